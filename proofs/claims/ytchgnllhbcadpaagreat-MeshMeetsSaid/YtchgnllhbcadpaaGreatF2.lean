/-
Own laws and walks for the claim, part 2: SxBase, SxOwn, SxFrz, SxNatLaw, SxNatLaw2, SxOps5, SxSo, Wx1, Wx2, Wx3, Wx4, Wx5. No condition.
-/
import Derived.Test.YtchgnllhbcadpaaGreatF1
import Derived.Test.YtchgnllhbcadpaaGreatProg
import Derived.KernelRfl
namespace Go.Proofs.YtchgnllhbcadpaaGreat.Sx
open Go Go.Proofs
set_option linter.unusedVariables false
set_option linter.unusedSimpArgs false
set_option maxRecDepth 20000
set_option maxHeartbeats 4000000
theorem hmix: Tryz.prog.follows .mixedOrders=true:=by kernel_rfl
theorem shrN{k:IntKind}(x s:Nat)(h:s≤k.bits):(x:Int).fdiv (2^(min ((s:Int).toNat) k.bits))=((x/2^s:Nat):Int):=by
 rw[Int.toNat_natCast,Nat.min_eq_left h,Int.fdiv_eq_ediv_of_nonneg _ (by exact Int.le_of_lt (Int.pow_pos (by omega)))]
 simp
theorem Ry(x s:Nat)(h:s≤IntKind.bits .u64)(hx:x*2^s<18446744073709551616):IntKind.u64.wrap ((x:Int)*2^(min ((s:Int).toNat) (IntKind.bits .u64)))=((x*2^s:Nat):Int):=by
 rw[Int.toNat_natCast,Nat.min_eq_left h]
 have:(x:Int)*2^s=((x*2^s:Nat):Int):=by simp
 rw[this];exact zk hx
theorem zB(a b:List Nat):valL (a++b)=valL a+4294967296^a.length*valL b:=by
 induction a with
 |nil=>simp[valL]
 |cons u r ih=>
  simp only[List.cons_append,valL,ih,List.length_cons,Nat.pow_succ]
  rw[Nat.mul_add,←Nat.mul_assoc,Nat.mul_comm 4294967296 (4294967296^r.length)];omega
theorem wt{ls:List Nat}{n:Nat}(h:n<ls.length):valL (ls.take (n+1))=valL (ls.take n)+4294967296^n*ls.getD n 0:=by
 rw[List.take_succ_eq_append_getElem h,zB,List.length_take,Nat.min_eq_left (by omega)]
 simp[valL,List.getD_eq_getElem?_getD,h]
theorem Jc(a:List Nat)(u:Nat)(h:u≠0):zp (a++[u])=true:=by
 induction a with
 |nil=>simp[zp,h]
 |cons v r ih=>rw[List.cons_append,Cj (by simp)];exact ih
theorem Mh{ls:List Nat}{n:Nat}(hn:n≤ls.length)(h:n=0∨ls.getD (n-1) 0≠0):zp (ls.take n)=true:=by
 rcases h with rfl|h
 ·rfl
 ·by_cases e:n=0
  ·subst e;rfl
  ·have h1:n-1<ls.length:=by omega
   have h2:ls.take n=ls.take (n-1)++[ls[n-1]]:=by
    rw[←List.take_succ_eq_append_getElem h1];congr 1;omega
   rw[h2]
   refine Jc _ _ ?_
   simpa[List.getD_eq_getElem?_getD,h1]using h
theorem L6{ls:List Nat}{b n:Nat}(h: ∀u∈ls,u<b): ∀u∈ls.take n,u<b:=fun u hu=>h u (List.mem_of_mem_take hu)
theorem zf{ls:List Nat}{n:Nat}(hu: ∀u∈ls,u<4294967296)(hn:n≤ls.length)(hv:valL (ls.take n)=valL ls)(h:n=0∨ls.getD (n-1) 0≠0):ls.take n=limbs (valL ls):=by
 rw[←hv,Cb (L6 hu) (Mh hn h)]
theorem Dr{ls:List Nat}{n:Nat}(hn:n≤ls.length)(h0:0<n)(hv:valL (ls.take n)=valL ls)(h:ls.getD (n-1) 0=0):valL (ls.take (n-1))=valL ls:=by
 have:=wt (ls:=ls) (n:=n-1) (by omega)
 rw[show n-1+1=n by omega,h]at this
 omega
theorem jv{ls:List Nat}{b:Nat}(hb:0<b)(h: ∀u∈ls,u<b)(i:Nat):ls.getD i 0<b:=by
 rw[List.getD_eq_getElem?_getD]
 cases hq:ls[i]? with
 |none=>simpa using hb
 |some u=>exact h u (List.mem_of_getElem? hq)
section
variable {P:Program}
theorem Q0{t ty:TypeId}{s b len d:Nat}{z:Array Value}{zs cs:List Atom}{parts:Array (Nat×Operand)}{vs:List Cmp}
  (hb:elB P t=some (s,b))(hz:elZ P t=some z)(hbig:Nat.ble (len*s) 16777216=true)(hzs:jy (CI (len*s) z)=some zs)(hl:parts.size=vs.length)
  (hf:afill (wY s) zs (List.zip (parts.toList.map (·.1)) vs)=some cs)(hm:menL d cs=false)(hcl:cs.length=len*s):
  OpOk P (.buildSlice t len parts) ty (List.zip (parts.toList.map (·.2)) (vs.map AV.c)) [] (.c (.one (.gs d len))) [(d,some (.grow s cs))]:=by
 intro dst pos after guard a w H β K Q hins _ _ hon hK
 obtain⟨T,arr,hrun,hsat⟩:=wr (a:=a) (β:=β) (H:=H) hb hz hbig hzs hl hf hins w
 unfold Oper.wp
 have:(execOp a.eval ⟨dst,.buildSlice t len parts,ty,pos,after,guard⟩).run P w= .ok (.value (.slice (some ⟨w.heap.size,0,none⟩) len len)) (w.alloc (.cells arr T)):=by
  simp only[execOp,Sem.run_bind,hrun,Result.andThen_ok,Sem.run_pure]
 rw[this]
 have hlen:cs.length=arr.toList.length:=hsat.length
 have hlen2:arr.toList.length=arr.size:=Array.length_toList
 refine hK _ _ H (β.set d (some (w.heap.size,len))) ?_ (.inr ⟨_,_,Bm.set_same _ _ _,rfl⟩) ?_
 ·simpa[kwOf,knOf,kdOf,look]using Step.alloc (β:=β) d len (.cells arr T) hon
 ·intro k' b' hb'
  simp only[List.mem_singleton,Prod.mk.injEq,Option.some.injEq]at hb'
  obtain⟨rfl,rfl⟩:=hb'
  refine .inr ⟨w.heap.size,len,arr,T,Bm.set_same _ _ _,vF w _,by omega,by omega,Sats.congr (Heap.Le.refl _) (fun k'' hk''=>?_) (by rw[hlen,List.take_length];exact hsat)⟩
  refine Bm.set_other _ _ fun e=>?_
  subst e;rw[hm]at hk'';cases hk''
theorem BL(ρ:Nat→Nat)(cells:List CAtom):(cells.map CAtom.up).map (Atom.map ρ)=cells.map CAtom.up:=by
 rw[List.map_map]
 refine List.map_congr_left fun a _=>?_
 cases a<;>rfl
theorem flnil{H:Heap}:(flP [] 0).p H (.slice none 0 0):=⟨none,0,rfl,Nat.le_refl _,.inl rfl⟩
section
variable {ts tx ty ex:TypeId} {x y:Operand} {k d n m bytes:Nat}
end
end
section
def FzAt(k:Nat)(cells:List CAtom)(g:Option Nat)(β:Bm)(H:Heap):Prop:=
 (β k=none∧cells=[])∨ ∃b c arr,β k=some (b,c)∧H b=some arr∧CSats H cells (arr.toList.take cells.length)∧ ∀es,g=some es→cells.length≤c*es
section
variable (k:Nat) (cells:List CAtom) (g:Option Nat)
def RelA(a a':Atom):Prop:= ∀β H H' v,Heap.Le H H'→FzAt k cells g β H'→a.sat β H v→a'.sat β H' v
def RelAs:List Atom→List Atom→Prop
 |[],[]=>True
 |a::r,a'::r'=>RelA k cells g a a'∧RelAs r r'
 |_,_=>False
def RelV(a a':AV):Prop:= ∀β H H' v,Heap.Le H H'→FzAt k cells g β H'→a.sat β H v→a'.sat β H' v
def RelB(b b':Blk):Prop:=(∃l l',b= .rigid l∧b'= .rigid l'∧RelAs k cells g l l')∨(∃e l l',b= .grow e l∧b'= .grow e l'∧RelAs k cells g l l')∨(∃l,b= .mp l∧b'= .mp l)
def RelM:List (Nat×AV)→List (Nat×AV)→Prop
 |[],[]=>True
 |(t,a)::r,(t',a')::r'=>t=t'∧RelV k cells g a a'∧RelM r r'
 |_,_=>False
def RelL:List (Nat×Blk)→List (Nat×Blk)→Prop
 |[],[]=>True
 |(t,a)::r,(t',a')::r'=>t=t'∧t≠k∧RelB k cells g a a'∧RelL r r'
 |_,_=>False
end
variable {k:Nat} {cells:List CAtom} {g:Option Nat}
theorem VG{a:Atom}:RelA k cells g a a:=fun β H H' v hle _ h=>Atom.sat_congr hle (fun _ _=>rfl) h
theorem wo: ∀{l:List Atom},RelAs k cells g l l
 |[]=>trivial
 |_::_=>⟨VG,wo⟩
theorem Ea{a:AV}:RelV k cells g a a:=fun β H H' v hle _ h=>AV.sat_congr hle (fun _ _=>rfl) h
theorem RelAs.sats{β:Bm}{H H':Heap}(hle:Heap.Le H H')(hf:FzAt k cells g β H'): ∀{l l':List Atom}{vs:List Value},RelAs k cells g l l'→Sats β H l vs→Sats β H' l' vs
 |[],[],[],_,_=>trivial
 |_::_,_::_,_::_,h,hs=>⟨h.1 _ _ _ _ hle hf hs.1,RelAs.sats hle hf h.2 hs.2⟩
 |[],[],_::_,_,hs=>hs.elim
 |_::_,_::_,[],_,hs=>hs.elim
theorem RelAs.length: ∀{l l':List Atom},RelAs k cells g l l'→l.length=l'.length
 |[],[],_=>rfl
 |_::_,_::_,h=>by simp[RelAs.length h.2]
 |[],_::_,h=>h.elim
 |_::_,[],h=>h.elim
theorem OW{a a':Atom}(h:RelA k cells g a a'):RelV k cells g (.c (.one a)) (.c (.one a')):=fun β H H' v hle hf hs=>h β H H' v hle hf hs
theorem q0c{l l':List Atom}(h:RelAs k cells g l l'):RelV k cells g (.c (.agg l)) (.c (.agg l')):=fun β H H' v hle hf⟨arr,h1,h2⟩=>⟨arr,h1,RelAs.sats hle hf h h2⟩
theorem GK{b:Blk}:RelB k cells g b b:=by
 cases b with
 |rigid l=>exact .inl ⟨l,l,rfl,rfl,wo⟩
 |grow e l=>exact .inr (.inl ⟨e,l,l,rfl,rfl,wo⟩)
 |mp l=>exact .inr (.inr ⟨l,rfl,rfl⟩)
theorem R5{l l':List Atom}(h:RelAs k cells g l l'):RelB k cells g (.rigid l) (.rigid l'):= .inl ⟨l,l',rfl,rfl,h⟩
theorem RelM.get: ∀{m m':List (Nat×AV)}{t:Nat}{a':AV},RelM k cells g m m'→look m' t=some a'→ ∃a,look m t=some a∧RelV k cells g a a'
 |(q,a)::r,(q',a1)::r',t,a',⟨h1,h2,h3⟩,hl=>by
  subst h1
  simp only[look]at hl⊢
  by_cases e:q=t
  ·subst e;simp at hl⊢;subst hl;exact h2
  ·rw[beqF e]at hl⊢;exact RelM.get h3 hl
 |[],[],_,_,_,hl=>by cases hl
 |[],_::_,_,_,h,_=>h.elim
 |_::_,[],_,_,h,_=>h.elim
theorem RelL.get: ∀{m m':List (Nat×Blk)}{t:Nat}{a':Blk},RelL k cells g m m'→look m' t=some a'→t≠k∧ ∃a,look m t=some a∧RelB k cells g a a'
 |(q,a)::r,(q',a1)::r',t,a',⟨h1,h0,h2,h3⟩,hl=>by
  subst h1
  simp only[look]at hl⊢
  by_cases e:q=t
  ·subst e;simp at hl⊢;subst hl;exact⟨h0,h2⟩
  ·rw[beqF e]at hl⊢;exact RelL.get h3 hl
 |[],[],_,_,_,hl=>by cases hl
 |[],_::_,_,_,h,_=>h.elim
 |_::_,[],_,_,h,_=>h.elim
theorem RelB.rep{β:Bm}{w:World}{H H':Heap}{q:Nat}{b b':Blk}(h:RelB k cells g b b')(hle:Heap.Le H H')(hf:FzAt k cells g β H')(hr:b.rep β w H q):b'.rep β w H' q:=by
 rcases h with⟨l,l',rfl,rfl,h⟩|⟨e,l,l',rfl,rfl,h⟩|⟨l,rfl,rfl⟩
 ·obtain⟨b,c,arr,T,h1,h2,h3⟩:=hr
  exact⟨b,c,arr,T,h1,h2,RelAs.sats hle hf h h3⟩
 ·have hl:=RelAs.length h
  rcases hr with⟨h1,h2⟩|⟨b,c,arr,T,h1,h2,h3,h4,h5⟩
  ·refine .inl ⟨h1,?_⟩
   subst h2;exact List.length_eq_zero_iff.1 hl.symm
  ·exact .inr ⟨b,c,arr,T,h1,h2,h3,by rw[←hl];exact h4,by rw[←hl];exact RelAs.sats hle hf h h5⟩
 ·exact hr
theorem IJ{n:Nat}{Ks:List Nat}{st st':ASt}(hk:Nat.blt k 100000=true)(hKs: ∀k0∈Ks,look st.L k0≠none)
  (hL:(g=none∧look st.L k=some (.rigid (cells.map CAtom.up)))∨ ∃es,g=some es∧look st.L k=some (.grow es (cells.map CAtom.up)))
  (hm: ∀t av',look st'.m t=some av'→ ∃av,look st.m t=some av∧RelV k cells g av av')
  (hL': ∀q b,look st'.L q=some b→q≠k∧ ∃b0,look st.L q=some b0∧RelB k cells g b0 b):Ent n Ks st st':=by
 have hk:k<100000:=by simpa using hk
 intro E hn hK a w H β hr
 have hkK:k∉E.Ks:=fun h=>by have:=E.hKs k h;omega
 have hblk:(β k=none∧cells=[])∨ ∃b c arr T x,β k=some (b,c)∧toFS st (2*k+1)=some (.bl x)∧w.heap[b]?=some (.cells arr T (0,0))∧CSats H cells (arr.toList.take cells.length)∧ ∀es,g=some es→cells.length≤c*es:=by
  rcases hL with⟨hg,hL⟩|⟨es,hg,hL⟩
  ·have hx:toFS st (2*k+1)=some (.bl (.rigid (cells.map CAtom.up))):=by rw[qk,hL];rfl
   obtain⟨b,c,arr,T,h1,h2,h3⟩:=hr.blk k _ hx
   have hlen:=Sats.length h3
   simp at hlen
   exact .inr ⟨b,c,arr,T,_,h1,hx,h2,by rw[List.take_of_length_le (by simp;omega)];exact CSats.of_up h3,by subst hg;intro es h;cases h⟩
  ·have hx:toFS st (2*k+1)=some (.bl (.grow es (cells.map CAtom.up))):=by rw[qk,hL];rfl
   rcases hr.blk k _ hx with⟨h1,h2⟩|⟨b,c,arr,T,h1,h2,h3,h4,h5⟩
   ·exact .inl ⟨h1,by simpa using h2⟩
   ·rw[List.length_map]at h5 h4
    exact .inr ⟨b,c,arr,T,_,h1,hx,h2,CSats.of_up h5,by subst hg;intro es' h;cases h;omega⟩
 rcases hblk with⟨hβ,hnil⟩|⟨b,c,arr,T,x,hβ,hx,hw,hsat,hcap⟩
 ·have hf:FzAt k cells g β H:= .inl ⟨hβ,hnil⟩
  refine⟨H,β,⟨hr.defers,hr.size,?_,?_,?_,?_,hr.bor,hr.os,hr.tape,hr.output,hr.wsize,hr.frame,hr.hle,hr.hnew,hr.hon⟩⟩
  ·intro t av ht
   rw[qL]at ht
   cases hl:look st'.m t with
   |none=>rw[hl]at ht;cases ht
   |some av1=>
    rw[hl]at ht;simp at ht;subst ht
    obtain⟨av0,h1,h2⟩:=hm _ _ hl
    obtain⟨v,hv,hs⟩:=hr.slot t av0 (by rw[qL,h1];rfl)
    exact⟨v,hv,h2 β H H v (Heap.Le.refl _) hf hs⟩
  ·intro q y hy
   rw[qk]at hy
   cases hl:look st'.L q with
   |none=>rw[hl]at hy;cases hy
   |some y'=>
    rw[hl]at hy;simp at hy;subst hy
    obtain⟨_,b0,h1,h2⟩:=hL' q _ hl
    exact h2.rep (Heap.Le.refl _) hf (hr.blk q _ (by rw[qk,h1];rfl))
  ·intro q y b' c' hy
   rw[qk]at hy
   cases hl:look st'.L q with
   |none=>rw[hl]at hy;cases hy
   |some y'=>
    obtain⟨_,b0,h1,h2⟩:=hL' q _ hl
    exact hr.own q b0 b' c' (by rw[qk,h1];rfl)
  ·intro q q' y y' b' c1 c2 hy hy' hne
   rw[qk]at hy hy'
   cases hl:look st'.L q with
   |none=>rw[hl]at hy;cases hy
   |some y1=>
    cases hl':look st'.L q' with
    |none=>rw[hl']at hy';cases hy'
    |some y1'=>
     obtain⟨_,b0,h1,_⟩:=hL' q _ hl
     obtain⟨_,b1,h2,_⟩:=hL' q' _ hl'
     exact hr.inj q q' b0 b1 b' c1 c2 (by rw[qk,h1];rfl) (by rw[qk,h2];rfl) hne
 ·obtain⟨o1,o2,o3⟩:=hr.own k x b c hx hβ
  have hle:=Heap.set_le arr o1
  have hf:FzAt k cells g β (H.set b arr):= .inr ⟨b,c,arr,hβ,Heap.set_at _ _ _,hsat.mono hle,hcap⟩
  have hnotK:E.w0.heap.size≤b:=by
   rcases o3 with o3|⟨k0,hk0,c0,o3⟩
   ·exact o3
   ·exfalso
    have h1:=hKs k0 (by rw[←hK];exact hk0)
    cases hl:look st.L k0 with
    |none=>exact h1 hl
    |some y=>
     have hne:k≠k0:=fun e=>hkK (e▸hk0)
     exact hr.inj k k0 x y b c c0 hx (by rw[qk,hl];rfl) hne hβ (by rw[hr.bor k0 hk0];exact o3)
  refine⟨H.set b arr,β,⟨hr.defers,hr.size,?_,?_,?_,?_,hr.bor,hr.os,hr.tape,hr.output,hr.wsize,hr.frame,hr.hle.trans hle,?_,?_⟩⟩
  ·intro t av ht
   rw[qL]at ht
   cases hl:look st'.m t with
   |none=>rw[hl]at ht;cases ht
   |some av1=>
    rw[hl]at ht;simp at ht;subst ht
    obtain⟨av0,h1,h2⟩:=hm _ _ hl
    obtain⟨v,hv,hs⟩:=hr.slot t av0 (by rw[qL,h1];rfl)
    exact⟨v,hv,h2 β H _ v hle hf hs⟩
  ·intro q y hy
   rw[qk]at hy
   cases hl:look st'.L q with
   |none=>rw[hl]at hy;cases hy
   |some y'=>
    rw[hl]at hy;simp at hy;subst hy
    obtain⟨_,b0,h1,h2⟩:=hL' q _ hl
    exact h2.rep hle hf (hr.blk q _ (by rw[qk,h1];rfl))
  ·intro q y b' c' hy hβ'
   rw[qk]at hy
   cases hl:look st'.L q with
   |none=>rw[hl]at hy;cases hy
   |some y'=>
    obtain⟨hqk,b0,h1,_⟩:=hL' q _ hl
    have hq:toFS st (2*q+1)=some (.bl b0):=by rw[qk,h1];rfl
    obtain⟨p1,p2,p3⟩:=hr.own q b0 b' c' hq hβ'
    refine⟨?_,p2,p3⟩
    have hne:b'≠b:=by
     intro e;subst e
     exact hr.inj q k b0 x b' c' c hq hx hqk hβ' hβ
    simp only[Heap.set,if_neg hne];exact p1
  ·intro q q' y y' b' c1 c2 hy hy' hne
   rw[qk]at hy hy'
   cases hl:look st'.L q with
   |none=>rw[hl]at hy;cases hy
   |some y1=>
    cases hl':look st'.L q' with
    |none=>rw[hl']at hy';cases hy'
    |some y1'=>
     obtain⟨_,b0,h1,_⟩:=hL' q _ hl
     obtain⟨_,b1,h2,_⟩:=hL' q' _ hl'
     exact hr.inj q q' b0 b1 b' c1 c2 (by rw[qk,h1];rfl) (by rw[qk,h2];rfl) hne
  ·intro b' hb'
   by_cases e:b'=b
   ·exact .inr (by omega)
   ·simp only[Heap.set,if_neg e]at hb';exact hr.hnew b' hb'
  ·intro b' cs hb'
   by_cases e:b'=b
   ·subst e
    rw[Heap.set_at]at hb';cases hb'
    exact⟨T,(0,0),hw⟩
   ·simp only[Heap.set,if_neg e]at hb';exact hr.hon b' cs hb'
theorem Mu{off n cap es l:Nat}{cells':List CAtom}(ho:off=l*es)(hc:n≤cap)(hl:l*es+n*es≤cells.length)(hcut:(cells.drop (l*es)).take (n*es)=cells'):
  RelA k cells g (.sl k off n cap) (.abs (flP cells' n)):=by
 rintro β H H' v hle hf ⟨b,c,hβ,rfl⟩
 rcases hf with⟨h1,_⟩|⟨b2,c2,arr,h1,h2,h3,h4⟩
 ·rw[hβ]at h1;cases h1
 ·rw[hβ]at h1;cases h1
  refine⟨_,cap,rfl,hc,.inr ⟨b,off,arr,rfl,h2,?_⟩⟩
  have:=(h3.drop (l*es)).take (n*es)
  have e1:cells'.length=n*es:=by rw[←hcut];simp;omega
  rw[List.drop_take,List.take_take,Nat.min_eq_left (by omega),hcut]at this
  rw[e1,ho];exact this
theorem q24{n es:Nat}(he:g=some es)(h0:0<es)(hl:n*es=cells.length):RelA k cells g (.gs k n) (.abs (flP cells n)):=by
 intro β H H' v hle hf hs
 rcases hf with⟨h1,hnil⟩|⟨b2,c2,arr,h1,h2,h3,h4⟩
 ·rcases hs with⟨_,rfl,rfl⟩|⟨b,c,hβ,_⟩
  ·exact⟨none,0,rfl,Nat.le_refl _,.inl hnil⟩
  ·rw[hβ]at h1;cases h1
 ·rcases hs with⟨hβ,_⟩|⟨b,c,hβ,rfl⟩
  ·rw[hβ]at h1;cases h1
  ·rw[hβ]at h1;cases h1
   have:=h4 es he
   rw[←hl]at this
   exact⟨_,_,rfl,Nat.le_of_mul_le_mul_right this h0,.inr ⟨_,0,arr,rfl,h2,by simpa using h3⟩⟩
theorem ZH{off m:Nat}{row:List CAtom}(h:off+m≤cells.length)(hr:(cells.drop off).take m=row):RelA k cells g (.loc k off) (.ptr row):=by
 rintro β H H' v hle hf ⟨b,c,hβ,rfl⟩
 rcases hf with⟨h1,_⟩|⟨b2,c2,arr,h1,h2,h3,h4⟩
 ·rw[hβ]at h1;cases h1
 ·rw[hβ]at h1;cases h1
  refine⟨b,off,arr,rfl,h2,?_⟩
  have e1:row.length=m:=by rw[←hr];simp;omega
  have:=(h3.drop off).take m
  rw[List.drop_take,List.take_take,Nat.min_eq_left (by omega),hr]at this
  rw[e1];exact this
def AImp(a b:Atom):Prop:= ∀β H v,a.sat β H v→b.sat β H v
def AImps:List Atom→List Atom→Prop
 |[],[]=>True
 |a::r,b::s=>AImp a b∧AImps r s
 |_,_=>False
def CImp(a b:Cmp):Prop:= ∀β H v,a.sat β H v→b.sat β H v
def CImps:List Cmp→List Cmp→Prop
 |[],[]=>True
 |a::r,b::s=>CImp a b∧CImps r s
 |_,_=>False
theorem AImps.sats{β:Bm}{H:Heap}: ∀{l l':List Atom}{vs:List Value},AImps l l'→Sats β H l vs→Sats β H l' vs
 |[],[],[],_,_=>trivial
 |_::_,_::_,_::_,h,hs=>⟨h.1 _ _ _ hs.1,AImps.sats h.2 hs.2⟩
 |[],[],_::_,_,hs=>hs.elim
 |_::_,_::_,[],_,hs=>hs.elim
theorem CImps.sats{β:Bm}{H:Heap}: ∀{l l':List Cmp}{vs:List Value},CImps l l'→CmpSats β H l vs→CmpSats β H l' vs
 |[],[],[],_,_=>trivial
 |_::_,_::_,_::_,h,hs=>⟨h.1 _ _ _ hs.1,CImps.sats h.2 hs.2⟩
 |[],[],_::_,_,hs=>hs.elim
 |_::_,_::_,[],_,hs=>hs.elim
theorem Kt{a:Atom}:AImp a a:=fun _ _ _ h=>h
theorem Fg{a b:Atom}(h:AImp a b):CImp (.one a) (.one b):=h
theorem Ff{l l':List Atom}(h:AImps l l'):CImp (.agg l) (.agg l'):=fun β H v⟨arr,h1,h2⟩=>⟨arr,h1,AImps.sats h h2⟩
theorem Sg{a b:Cmp}(h:a=b):CImp a b:=fun _ _ _ k=>h▸k
theorem Gh{a:Cmp}:CImp a a:=fun _ _ _ h=>h
theorem Ca{a b:Cmp}(h:CImp a b): ∀β H v,(AV.c a).sat β H v→(AV.c b).sat β H v:=h
theorem Uh{l l':List Cmp}(h:CImps l l'): ∀β H v,(AV.tup l).sat β H v→(AV.tup l').sat β H v:=fun β H v⟨arr,h1,h2⟩=>⟨arr,h1,CImps.sats h h2⟩
def VImps:List AV→List AV→Prop
 |[],[]=>True
 |a::r,b::s=>(∀β H v,a.sat β H v→b.sat β H v)∧VImps r s
 |_,_=>False
theorem VImps.avs{β:Bm}{H:Heap}: ∀{l l':List AV}{vs:List Value},VImps l l'→AVs β H l vs→AVs β H l' vs
 |[],[],[],_,_=>trivial
 |_::_,_::_,_::_,h,hs=>⟨h.1 _ _ _ hs.1,VImps.avs h.2 hs.2⟩
 |[],[],_::_,_,hs=>hs.elim
 |_::_,_::_,[],_,hs=>hs.elim
theorem LC{a:AV}: ∀β H v,a.sat β H v→a.sat β H v:=fun _ _ _ h=>h
theorem Au{P:Program}{f:FuncId}{ps ps':List AV}{kin:List (Nat×Blk)}{R:AV}{Lw:List (Nat×Option Blk)}(hi:VImps ps' ps)(h:SigG P f ps kin R Lw):SigG P f ps' kin R Lw:=
 ⟨h.1,fun vs w H β ha=>h.2 vs w H β (hi.avs ha)⟩
def ren(K k:Nat):Nat→Nat:=fun q=>if q=K then k else q
theorem Lu{P:Program}{f:FuncId}{ps ps':List AV}{K k:Nat}{x y x' y':Blk}{R R':AV}(h:SigG P f ps [(K,x)] R [(K,some y)])
  (ha:ps.map (AV.map (ren K k))=ps')(hx:x.map (ren K k)=x')(hR:R.map (ren K k)=R')(hy:y.map (ren K k)=y'):SigG P f ps' [(k,x')] R' [(k,some y')]:=by
 subst ha hx hR hy
 have hρ:ren K k K=k:=by simp[ren]
 refine⟨h.1,fun vs w H β hargs hkin hdis hon=>?_⟩
 have hargs':AVs (fun q=>β (ren K k q)) H ps vs:=by
  clear hkin hdis
  induction ps generalizing vs with
  |nil=>cases vs with
   |nil=>trivial
   |cons=>exact hargs.elim
  |cons a r ih=>cases vs with
   |nil=>exact hargs.elim
   |cons v vs=>
    refine⟨AV.sat_map.1 hargs.1,?_⟩
    clear ih h
    have hr:=hargs.2
    clear hargs
    induction r generalizing vs with
    |nil=>cases vs with
     |nil=>trivial
     |cons=>exact hr.elim
    |cons a r ih=>cases vs with
     |nil=>exact hr.elim
     |cons v vs=>exact⟨AV.sat_map.1 hr.1,ih vs hr.2⟩
 have hk1:kwOf [(k,x.map (ren K k))] [(k,some (y.map (ren K k)))]=[k]:=by simp[kwOf,look]
 have hk2:knOf [(k,x.map (ren K k))] [(k,some (y.map (ren K k)))]=[]:=by simp[knOf,look]
 have hK1:kwOf [(K,x)] [(K,some y)]=[K]:=by simp[kwOf,look]
 have hK2:knOf [(K,x)] [(K,some y)]=[]:=by simp[knOf,look]
 refine Calls.mono (h.2 vs w H (fun q=>β (ren K k q)) hargs' ?_ ?_ hon) ?_
 ·intro p hp
  simp only[List.mem_singleton]at hp;subst hp
  obtain⟨h1,h2⟩:=hkin (k,x.map (ren K k)) (by simp)
  refine⟨Blk.rep_map.1 (by rw[hρ];exact h1),fun b c hb=>?_⟩
  exact h2 b c (by simpa[hρ]using hb)
 ·intro p hp p' hp' hne
  simp only[List.mem_singleton]at hp hp'
  subst hp;subst hp';exact absurd rfl hne
 ·rintro e w' ⟨v,H',β',he,hs,hv,hb⟩
  have hβ:β'=fun q=>β (ren K k q):=funext fun q=>hs.beta q (by rw[hK2];simp)
  subst hβ
  refine⟨v,H',β,he,⟨hs.os,hs.tape,hs.output,hs.size,?_,hs.hle,hs.hnew,hs.hon,fun _ _=>rfl,?_,?_⟩,AV.sat_map.2 hv,?_⟩
  ·intro b hbs hne
   refine hs.keep b hbs ?_
   rw[hK1];rw[hk1]at hne
   intro q hq c
   simp only[List.mem_singleton]at hq;subst hq
   simpa[hρ]using hne k (by simp) c
  ·rw[hk2];intro q hq;simp at hq
  ·rw[hk2];intro q hq;simp at hq
  ·intro q b hqb
   simp only[List.mem_singleton,Prod.mk.injEq,Option.some.injEq]at hqb
   obtain⟨rfl,rfl⟩:=hqb
   have:=Blk.rep_map.2 (hb K y (by simp))
   rwa [hρ]at this
end
abbrev BB:Nat:=4294967296
theorem qy(ls:List Nat)(n:Nat):valL (ls.take (n+1))=valL (ls.take n)+4294967296^n*ls.getD n 0:=by
 rcases Nat.lt_or_ge n ls.length with h|h
 ·exact wt h
 ·rw[List.take_of_length_le (by omega),List.take_of_length_le h]
  simp[List.getD_eq_getElem?_getD,List.getElem?_eq_none h]
theorem HQ(ls:List Nat)(n x:Nat)(h:n<ls.length):(ls.set n x).take (n+1)=ls.take n++[x]:=by
 rw[List.take_succ_eq_append_getElem (by simpa using h),List.take_set,List.getElem_set_self,List.set_eq_of_length_le (by simp;omega)]
theorem jz{ls:List Nat}{n x:Nat}(h:n<ls.length):valL ((ls.set n x).take (n+1))=valL (ls.take n)+4294967296^n*x:=by
 rw[HQ ls n x h,zB,List.length_take,Nat.min_eq_left (by omega)];simp[valL]
theorem jj{ls:List Nat}{b n x:Nat}(h: ∀u∈ls,u<b)(hx:x<b): ∀u∈ls.set n x,u<b:=by
 intro u hu
 rcases List.mem_or_eq_of_mem_set hu with h'|rfl
 ·exact h u h'
 ·exact hx
theorem rep_lt(n:Nat): ∀u∈List.replicate n 0,u<4294967296:=by
 intro u hu;rw[List.eq_of_mem_replicate hu];omega
theorem q8(x i:Nat):(limbs x).getD i 0<4294967296:=jv (by omega) (qF x) i
theorem ji{ls:List Nat}{n:Nat}(h:ls.length≤n):ls.take n=ls:=List.take_of_length_le h
theorem jZ{x y:Nat}(h:x≤y):(limbs x).length≤(limbs y).length:=Vj h
theorem AL:limbs 1=[1]:=by rw[jF (by omega)];rfl
theorem Z9:(limbs 1).length=1:=by rw[AL];rfl
def cmpN(x y:Nat):Int:=if x<y then-1 else if x=y then 0 else 1
theorem Fi{x y:Nat}(h:(limbs x).length<(limbs y).length):x<y:=by
 rcases Nat.lt_or_ge x y with h'|h'
 ·exact h'
 ·have:=jZ h';omega
theorem zw(ls:List Nat)(i:Nat):valL ls=valL (ls.take i)+4294967296^(min i ls.length)*valL (ls.drop i):=by
 conv=>lhs;rw[←List.take_append_drop i ls]
 rw[zB,List.length_take]
theorem vy{ls:List Nat}(h: ∀u∈ls,u<4294967296){i:Nat}(hi:i≤ls.length):valL (ls.take i)<4294967296^i:=by
 have:=jk (ls.take i) (L6 h)
 rwa [List.length_take,Nat.min_eq_left hi]at this
theorem Iz{x y i:Nat}(hl:(limbs x).length=(limbs y).length)(hi:i<(limbs x).length)(ha:(limbs x).drop (i+1)=(limbs y).drop (i+1)):
  ((limbs x).getD i 0=(limbs y).getD i 0→(limbs x).drop i=(limbs y).drop i)∧((limbs x).getD i 0<(limbs y).getD i 0→x<y):=by
 have e: ∀z,i<(limbs z).length→(limbs z).drop i=(limbs z).getD i 0::(limbs z).drop (i+1):=by
  intro z hz
  rw[List.drop_eq_getElem_cons hz]
  simp[List.getD_eq_getElem?_getD,hz]
 constructor
 ·intro h
  rw[e x hi,e y (by omega),ha,h]
 ·intro h
  have v: ∀z,i<(limbs z).length→z=valL ((limbs z).take i)+4294967296^i*((limbs z).getD i 0+4294967296*valL ((limbs z).drop (i+1))):=by
   intro z hz
   have h1:=zw (limbs z) i
   rw[qm,Nat.min_eq_left (by omega),e z hz,valL]at h1
   exact h1
  have h1:=v x hi
  have h2:=v y (by omega)
  have h3:=vy (qF x) (i:=i) (by omega)
  rw[ha]at h1
  have h4:4294967296^i*((limbs x).getD i 0+4294967296*valL ((limbs y).drop (i+1)))+4294967296^i≤4294967296^i*((limbs y).getD i 0+4294967296*valL ((limbs y).drop (i+1))):=by
   rw[←Nat.mul_succ];exact Nat.mul_le_mul_left _ (by omega)
  omega
theorem XL{x y:Nat}(h:(limbs x).drop 0=(limbs y).drop 0):x=y:=by
 have:=congrArg valL h
 simpa[qm]using this
structure AddI (x y i c:Nat) (out:List Nat):Prop where
 hi:i≤(limbs x).length
 hl:out.length=(limbs x).length+1
 hu: ∀u∈out,u<4294967296
 hc:c≤1
 hv:valL (out.take i)+4294967296^i*c=valL ((limbs x).take i)+valL ((limbs y).take i)
theorem AddI.start(x y:Nat):AddI x y 0 0 (List.replicate ((limbs x).length+1) 0):=⟨by omega,by simp,rep_lt _,by omega,by simp[valL]⟩
theorem AddI.step{x y i c s:Nat}{out:List Nat}(h:AddI x y i c out)(hi:i<(limbs x).length)(hs:s=c+(limbs x).getD i 0+(limbs y).getD i 0):
  AddI x y (i+1) (s/4294967296) (out.set i (s%4294967296)):=by
 have h1:=q8 x i
 have h2:=q8 y i
 have hlen:=h.hl
 refine⟨hi,by simp[h.hl],jj h.hu (Nat.mod_lt _ (by omega)),by have:=h.hc;omega,?_⟩
 rw[jz (by omega),qy,qy,Nat.pow_succ]
 have:=h.hv
 have e:4294967296^i*(s%4294967296)+4294967296^i*4294967296*(s/4294967296)=4294967296^i*s:=by
  rw[Nat.mul_assoc,←Nat.mul_add,Nat.mod_add_div]
 rw[Nat.add_assoc,e,hs,Nat.mul_add,Nat.mul_add]
 omega
theorem AddI.fin{x y c:Nat}{out:List Nat}(h:AddI x y (limbs x).length c out)(hyx:(limbs y).length≤(limbs x).length):
  valL (out.set (limbs x).length (c%4294967296))=x+y∧(∀u∈out.set (limbs x).length (c%4294967296),u<4294967296):=by
 have hlen:=h.hl
 refine⟨?_,jj h.hu (Nat.mod_lt _ (by omega))⟩
 have h1:=jz (ls:=out) (n:=(limbs x).length) (x:=c%4294967296) (by omega)
 rw[ji (by simp;omega)]at h1
 have:=h.hv
 rw[ji (Nat.le_refl _),ji hyx,qm,qm]at this
 have hc:=h.hc
 rw[Nat.mod_eq_of_lt (by omega)]at h1⊢
 omega
structure SubI (x y i c:Nat) (out:List Nat):Prop where
 hi:i≤(limbs x).length
 hl:out.length=(limbs x).length
 hu: ∀u∈out,u<4294967296
 hc:c≤1
 hv:valL (out.take i)+valL ((limbs y).take i)=valL ((limbs x).take i)+4294967296^i*c
theorem SubI.start(x y:Nat):SubI x y 0 0 (List.replicate (limbs x).length 0):=⟨by omega,by simp,rep_lt _,by omega,by simp[valL]⟩
theorem Nj: ∃f:Nat→Nat→Nat,∀a s,f a s=(a+18446744073709551616-s)%18446744073709551616:=⟨_,fun _ _=>rfl⟩
noncomputable def dif:Nat→Nat→Nat:=Classical.choose Nj
theorem Bq(a s:Nat):dif a s=(a+18446744073709551616-s)%18446744073709551616:=Classical.choose_spec Nj a s
theorem SubI.step{x y i c s:Nat}{out:List Nat}(h:SubI x y i c out)(hi:i<(limbs x).length)(hs:s=c+(limbs y).getD i 0):
  SubI x y (i+1) (dif ((limbs x).getD i 0) s/9223372036854775808) (out.set i (dif ((limbs x).getD i 0) s%4294967296)):=by
 have h1:=q8 x i
 have h2:=q8 y i
 have hlen:=h.hl
 have hc:=h.hc
 simp only[Bq]
 generalize hx:(limbs x).getD i 0=a at*
 generalize hy:(limbs y).getD i 0=b at*
 have key:(a+18446744073709551616-s)%18446744073709551616%4294967296+s=a+4294967296*((a+18446744073709551616-s)%18446744073709551616/9223372036854775808):=by omega
 refine⟨hi,by simp[h.hl],jj h.hu (Nat.mod_lt _ (by omega)),by omega,?_⟩
 rw[jz (by omega),qy,qy,Nat.pow_succ,hx,hy]
 have:=h.hv
 generalize(a+18446744073709551616-s)%18446744073709551616/9223372036854775808=q at*
 generalize(a+18446744073709551616-s)%18446744073709551616%4294967296=r at*
 have e:=congrArg (4294967296^i* ·) key
 simp only[Nat.mul_add,hs]at e
 rw[Nat.mul_assoc]
 omega
theorem SubI.fin{x y c:Nat}{out:List Nat}(h:SubI x y (limbs x).length c out)(hxy:y≤x):valL out=x-y∧(∀u∈out,u<4294967296):=by
 have hyx:=jZ hxy
 refine⟨?_,h.hu⟩
 have:=h.hv
 rw[ji (by rw[h.hl];exact Nat.le_refl _),ji (Nat.le_refl _),ji hyx,qm,qm]at this
 have h1:=jk out h.hu
 rw[h.hl]at h1
 have hc:=h.hc
 rcases Nat.eq_zero_or_pos c with e|e
 ·subst e;omega
 ·have:c=1:=by omega
  subst this
  omega
structure MulI (x y i:Nat) (out:List Nat):Prop where
 hi:i≤(limbs x).length
 hl:out.length=(limbs x).length+(limbs y).length
 hu: ∀u∈out,u<4294967296
 hv:valL out=valL ((limbs x).take i)*y
 hz: ∀j,i+(limbs y).length≤j→out.getD j 0=0
structure MulJ (x y i a j c:Nat) (o0 out:List Nat):Prop where
 hj:j≤(limbs y).length
 hl:out.length=(limbs x).length+(limbs y).length
 hu: ∀u∈out,u<4294967296
 hc:c<4294967296
 hlo:out.drop (i+j)=o0.drop (i+j)
 hv:valL (out.take (i+j))+4294967296^(i+j)*c=valL (o0.take (i+j))+4294967296^i*(a*valL ((limbs y).take j))
theorem MulI.start(x y:Nat):MulI x y 0 (List.replicate ((limbs x).length+(limbs y).length) 0):=by
 refine⟨by omega,by simp,rep_lt _,?_,?_⟩
 ·have: ∀n,valL (List.replicate n 0)=0:=by
   intro n;induction n with
   |zero=>rfl
   |succ n ih=>simp[List.replicate_succ,valL,ih]
  rw[this];simp[valL]
 ·intro j _
  rw[List.getD_eq_getElem?_getD,List.getElem?_replicate];split<;>rfl
theorem MulJ.start{x y i a:Nat}{out:List Nat}(h:MulI x y i out):MulJ x y i a 0 0 out out:=⟨by omega,h.hl,h.hu,by omega,rfl,by simp[valL]⟩
theorem jR(l:List Nat)(k:Nat):l.getD k 0=(l.drop k).getD 0 0:=by simp[List.getD_eq_getElem?_getD]
theorem MulJ.step{x y i a j c s:Nat}{o0 out:List Nat}(h:MulJ x y i a j c o0 out)(hi:i<(limbs x).length)(hj:j<(limbs y).length)(ha:a<4294967296)
  (hs:s=c+(a*(limbs y).getD j 0+out.getD (i+j) 0)):MulJ x y i a (j+1) (s/4294967296) o0 (out.set (i+j) (s%4294967296))∧s<18446744073709551616:=by
 have h2:=q8 y j
 have hlen:=h.hl
 have h3:out.getD (i+j) 0<4294967296:=jv (by omega) h.hu _
 have hm:a*(limbs y).getD j 0≤4294967295*4294967295:=Nat.mul_le_mul (by omega) (by omega)
 have hc:=h.hc
 have hs2:s<18446744073709551616:=by omega
 have ho:o0.getD (i+j) 0=out.getD (i+j) 0:=by rw[jR o0,jR out,h.hlo]
 refine⟨⟨hj,by simp[h.hl],jj h.hu (Nat.mod_lt _ (by omega)),by omega,?_,?_⟩,hs2⟩
 ·rw[←Nat.add_assoc,List.drop_set_of_lt (by omega)]
  have:=congrArg (List.drop 1) h.hlo
  simpa[List.drop_drop]using this
 ·rw[←Nat.add_assoc,jz (by omega),qy,qy,Nat.pow_succ]
  have:=h.hv
  have e:4294967296^(i+j)*(s%4294967296)+4294967296^(i+j)*4294967296*(s/4294967296)=4294967296^(i+j)*s:=by
   rw[Nat.mul_assoc,←Nat.mul_add,Nat.mod_add_div]
  rw[Nat.add_assoc,e,hs,ho,Nat.mul_add,Nat.mul_add,Nat.mul_add,Nat.mul_add]
  have e2:4294967296^i*(a*(4294967296^j*(limbs y).getD j 0))=4294967296^(i+j)*(a*(limbs y).getD j 0):=by
   rw[Nat.pow_add,Nat.mul_assoc,←Nat.mul_assoc a,Nat.mul_comm a (4294967296^j),Nat.mul_assoc (4294967296^j)]
  rw[e2];omega
theorem MulJ.fin{x y i c:Nat}{o0 out:List Nat}(hI:MulI x y i o0)(hi:i<(limbs x).length)(h:MulJ x y i ((limbs x).getD i 0) (limbs y).length c o0 out):
  MulI x y (i+1) (out.set (i+(limbs y).length) (c%4294967296)):=by
 have hlen:=h.hl
 have hc:=h.hc
 rw[Nat.mod_eq_of_lt hc]
 have hz:=hI.hz
 have hzo: ∀j,i+(limbs y).length≤j→out.getD j 0=0:=by
  intro j hj
  have:=hz j hj
  have e: ∀l:List Nat,l.getD j 0=(l.drop (i+(limbs y).length)).getD (j-(i+(limbs y).length)) 0:=by
   intro l
   simp only[List.getD_eq_getElem?_getD,List.getElem?_drop]
   rw[show i+(limbs y).length+(j-(i+(limbs y).length))=j by omega]
  rw[e out,h.hlo,←e o0];exact this
 have valz: ∀(l:List Nat)(k:Nat),(∀j,k≤j→l.getD j 0=0)→valL l=valL (l.take k):=by
  intro l k hk
  have h1:=zw l k
  have h2:valL (l.drop k)=0:=by
   have: ∀m:List Nat,(∀j,m.getD j 0=0)→valL m=0:=by
    intro m
    induction m with
    |nil=>intro _;rfl
    |cons u r ih=>
     intro hm
     have h0:=hm 0
     simp at h0
     rw[valL,ih (fun j=>by simpa using hm (j+1)),h0]
   refine this _ fun j=>?_
   have:=hk (k+j) (by omega)
   simpa[List.getD_eq_getElem?_getD,List.getElem?_drop]using this
  rw[h1,h2];simp
 refine⟨hi,by simp[h.hl],jj h.hu hc,?_,?_⟩
 ·have h1: ∀j,i+(limbs y).length+1≤j→(out.set (i+(limbs y).length) c).getD j 0=0:=by
   intro j hj
   rw[List.getD_eq_getElem?_getD,List.getElem?_set_ne (by omega),←List.getD_eq_getElem?_getD]
   exact hzo j (by omega)
  rw[valz _ _ h1,jz (by omega),h.hv,←valz o0 _ hz,hI.hv,ji (Nat.le_refl _),qm,qy,Nat.add_mul,Nat.mul_assoc]
 ·intro j hj
  rw[List.getD_eq_getElem?_getD,List.getElem?_set_ne (by omega),←List.getD_eq_getElem?_getD]
  exact hzo j (by omega)
theorem MulI.skip{x y i:Nat}{out:List Nat}(h:MulI x y i out)(hi:i<(limbs x).length)(h0:(limbs x).getD i 0=0):MulI x y (i+1) out:=by
 refine⟨hi,h.hl,h.hu,?_,fun j hj=>h.hz j (by omega)⟩
 rw[h.hv,qy,h0];simp
theorem MulI.fin{x y:Nat}{out:List Nat}(h:MulI x y (limbs x).length out):valL out=x*y:=by
 rw[h.hv,ji (Nat.le_refl _),qm]
theorem jf{x y:Nat}:cmpN x y<0↔x<y:=by
 unfold cmpN;split
 ·simp;assumption
 ·split<;>simp<;>omega
theorem Bo{x y:Nat}:cmpN x y=0↔x=y:=by
 unfold cmpN;split
 ·simp;omega
 ·split<;>simp<;>omega
theorem zO{x y:Nat}:cmpN x y>0↔y<x:=by
 unfold cmpN;split
 ·simp;omega
 ·split<;>simp<;>omega
theorem q19(x y:Nat): -1≤cmpN x y∧cmpN x y≤1:=by
 unfold cmpN;split
 ·simp
 ·split<;>simp
theorem TA{a s:Nat}(ha:a<18446744073709551616)(hs:s≤18446744073709551616):IntKind.u64.wrap ((a:Int) -(s:Int))=((dif a s:Nat):Int):=by
 simp only[Bq]
 rcases Nat.lt_or_ge a s with h|h
 ·rw[Nat.mod_eq_of_lt (by omega)]
  show((a:Int) -s)%((2:Int)^64)=_
  rw[show(2:Int)^64=18446744073709551616 from by decide]
  omega
 ·rw[show a+18446744073709551616-s=a-s+18446744073709551616 by omega,Nat.add_mod_right,Nat.mod_eq_of_lt (by omega)]
  rw[K5 (by omega) (by omega)];omega
theorem ofInt_nat(w n:Nat):BitVec.ofInt w (n:Int)=BitVec.ofNat w n:=by
 exact BitVec.ofInt_natCast w n
theorem OC{w x s b:Nat}(hb:b<2^s):x*2^s|||b=x*2^s+b:=by
 rw[Nat.mul_comm,Nat.two_pow_add_eq_or_of_lt hb]
theorem Lb{a b:Nat}(x s:Nat)(hab:a=x*2^s)(hb:b<2^s)(h:a+b<18446744073709551616):
  IntKind.u64.wrap ((BitVec.ofInt (IntKind.bits .u64) (a:Int)|||BitVec.ofInt (IntKind.bits .u64) (b:Int)).toNat)=((a+b:Nat):Int):=by
 rw[ofInt_nat,ofInt_nat,BitVec.toNat_or,BitVec.toNat_ofNat,BitVec.toNat_ofNat]
 have e:(2:Nat)^(IntKind.bits .u64)=18446744073709551616:=by decide
 rw[e,Nat.mod_eq_of_lt (by omega),Nat.mod_eq_of_lt (by omega),hab,OC (w:=0) hb,←hab]
 exact zk h
theorem QT{a b:Nat}(x s:Nat)(hab:a=x*2^s)(hb:b<2^s)(h:b+a<18446744073709551616):
  IntKind.u64.wrap ((BitVec.ofInt (IntKind.bits .u64) (b:Int)|||BitVec.ofInt (IntKind.bits .u64) (a:Int)).toNat)=((b+a:Nat):Int):=by
 rw[BitVec.or_comm,Lb x s hab hb (by omega),Nat.add_comm]
theorem Vq{a b:Nat}(x s:Nat)(hab:a=x*2^s)(hb:b<2^s)(h:b+a<4294967296):
  IntKind.u32.wrap ((BitVec.ofInt (IntKind.bits .u32) (b:Int)|||BitVec.ofInt (IntKind.bits .u32) (a:Int)).toNat)=((b+a:Nat):Int):=by
 rw[ofInt_nat,ofInt_nat,BitVec.toNat_or,BitVec.toNat_ofNat,BitVec.toNat_ofNat]
 have e:(2:Nat)^(IntKind.bits .u32)=4294967296:=by decide
 rw[e,Nat.mod_eq_of_lt (by omega),Nat.mod_eq_of_lt (by omega),Nat.or_comm,hab,OC (w:=0) hb,Nat.add_comm,←hab]
 exact Pr h
theorem PE{a:Nat}(h:a<18446744073709551616):
  IntKind.u64.wrap ((BitVec.ofInt (IntKind.bits .u64) (a:Int)&&&BitVec.ofInt (IntKind.bits .u64) 4294967295).toNat)=((a%4294967296:Nat):Int):=by
 have e:(2:Nat)^(IntKind.bits .u64)=18446744073709551616:=by decide
 rw[ofInt_nat,show(4294967295:Int)=((4294967295:Nat):Int)from rfl,ofInt_nat,BitVec.toNat_and,BitVec.toNat_ofNat,BitVec.toNat_ofNat]
 rw[e,Nat.mod_eq_of_lt h,show 4294967295%18446744073709551616=2^32-1 by decide,Nat.and_two_pow_sub_one_eq_mod]
 exact zk (by omega)
def bl(n:Nat):Nat:=if n=0 then 0 else n.log2+1
theorem DA:bl 0=0:=rfl
theorem Fc(n:Nat):n<2^bl n:=by
 unfold bl;split
 ·subst n;simp
 ·exact Nat.lt_log2_self
theorem Dz{n:Nat}(h:n≠0):2^(bl n-1)≤n:=by
 unfold bl;rw[if_neg h];exact Nat.log2_self_le h
theorem Sb{n k:Nat}(h1:2^k≤n)(h2:n<2^(k+1)):bl n=k+1:=by
 have hn:n≠0:=by have:=Nat.pow_pos (n:=k) (show 0<2 by omega);omega
 unfold bl;rw[if_neg hn,(Nat.log2_eq_iff hn).2 ⟨h1,h2⟩]
theorem Aj{n k:Nat}(h:2^k≤n):bl n=bl (n/2^k)+k:=by
 have hp:=Nat.pow_pos (n:=k) (show 0<2 by omega)
 have h0:n/2^k≠0:=by have:=Nat.div_pos h hp;omega
 have h1:=Dz h0
 have h2:=Fc (n/2^k)
 have hb:0<bl (n/2^k):=by
  unfold bl;rw[if_neg h0];omega
 have:=Sb (n:=n) (k:=bl (n/2^k) -1+k) (by
  rw[Nat.pow_add];exact Nat.le_trans (Nat.mul_le_mul_right _ h1) (Nat.div_mul_le_self n _)) (by
  rw[show bl (n/2^k) -1+k+1=bl (n/2^k)+k by omega,Nat.pow_add]
  exact(Nat.div_lt_iff_lt_mul hp).1 h2)
 omega
theorem LQ{u:Nat}(h:u<4294967296):bl u≤32:=by
 rcases Nat.lt_or_ge 32 (bl u)with h'|h'
 ·have h0:u≠0:=by rintro rfl;simp[DA]at h'
  have:=Dz h0
  have:=Nat.pow_le_pow_right (show 0<2 by omega) (show 32≤bl u-1 by omega)
  omega
 ·exact h'
theorem Ir{x:Nat}(h:x≠0):0<bl x:=by unfold bl;rw[if_neg h];omega
theorem XK(v k:Nat):bl (v*2^k)=if v=0 then 0 else bl v+k:=by
 split
 ·subst v;simp[DA]
 ·rename_i h
  have h1:=Dz h
  have h2:=Fc v
  have h3:=Ir h
  have:=Sb (n:=v*2^k) (k:=bl v-1+k) (by rw[Nat.pow_add];exact Nat.mul_le_mul_right _ h1) (by
   rw[show bl v-1+k+1=bl v+k by omega,Nat.pow_add];exact(Nat.mul_lt_mul_right (Nat.pow_pos (by omega))).2 h2)
  omega
theorem vf{x:Nat}(h:0<(limbs x).length):x=valL ((limbs x).take ((limbs x).length-1))+4294967296^((limbs x).length-1)*(limbs x).getD ((limbs x).length-1) 0:=by
 have:=wt (ls:=limbs x) (n:=(limbs x).length-1) (by omega)
 rw[show(limbs x).length-1+1=(limbs x).length by omega,List.take_length,qm]at this
 exact this
theorem zC{x:Nat}(h:0<(limbs x).length):(limbs x).getD ((limbs x).length-1) 0≠0:=by
 intro e
 have h1:=vf h
 rw[e,Nat.mul_zero,Nat.add_zero]at h1
 have h2:=jk ((limbs x).take ((limbs x).length-1)) (fun u hu=>qF x u (List.mem_of_mem_take hu))
 rw[←h1,List.length_take,Nat.min_eq_left (by omega)]at h2
 have:=AP h2
 unfold nl at this;omega
theorem Gg{x:Nat}(h:0<(limbs x).length):32*((limbs x).length-1)+bl ((limbs x).getD ((limbs x).length-1) 0)=bl x:=by
 have h1:=vf h
 have h2:=jk ((limbs x).take ((limbs x).length-1)) (fun u hu=>qF x u (List.mem_of_mem_take hu))
 rw[List.length_take,Nat.min_eq_left (by omega)]at h2
 have h3:=zC h
 generalize(limbs x).getD ((limbs x).length-1) 0=u at*
 generalize hn:(limbs x).length-1=n at*
 generalize valL ((limbs x).take n)=v at*
 have e:(4294967296:Nat)^n=2^(32*n):=by rw[Nat.pow_mul]
 rw[e]at h1 h2
 have hx:x/2^(32*n)=u:=by
  rw[h1,Nat.add_mul_div_left _ _ (Nat.pow_pos (by omega)),Nat.div_eq_of_lt h2,Nat.zero_add]
 have:=Aj (n:=x) (k:=32*n) (by
  rw[h1]
  have:2^(32*n)*1≤2^(32*n)*u:=Nat.mul_le_mul_left _ (by omega)
  omega)
 rw[hx]at this;omega
theorem zU{x:Nat}:bl x=0↔x=0:=by
 constructor
 ·intro h
  by_cases e:x=0
  ·exact e
  ·have:=Ir e;omega
 ·rintro rfl;rfl
theorem nl0{x:Nat}:(limbs x).length=0↔x=0:=Mg
structure SmallI (x u i r:Nat) (out:List Nat):Prop where
 hi:i≤(limbs x).length
 hl:out.length=(limbs x).length
 hu: ∀v∈out,v<4294967296
 hr:r<u
 hv:valL (out.drop i)*u+r=valL ((limbs x).drop i)
theorem SmallI.start{x u:Nat}(hu:0<u):SmallI x u (limbs x).length 0 (List.replicate (limbs x).length 0):=by
 refine⟨Nat.le_refl _,by simp,rep_lt _,hu,?_⟩
 rw[List.drop_eq_nil_of_le (by simp),List.drop_eq_nil_of_le (Nat.le_refl _)];simp[valL]
theorem zi{ls:List Nat}{i:Nat}(h:i<ls.length):valL (ls.drop i)=ls.getD i 0+4294967296*valL (ls.drop (i+1)):=by
 rw[List.drop_eq_getElem_cons h,valL];simp[List.getD_eq_getElem?_getD,h]
theorem SmallI.step{x u i r d:Nat}{out:List Nat}(h:SmallI x u i r out)(h0:0<i)(hd:d=r*4294967296+(limbs x).getD (i-1) 0):
  SmallI x u (i-1) (d%u) (out.set (i-1) (d/u%4294967296)):=by
 have hlen:=h.hl
 have hi:=h.hi
 have hr:=h.hr
 have hg:=q8 x (i-1)
 have hq:d/u<4294967296:=by
  rw[Nat.div_lt_iff_lt_mul (by omega)]
  have:(r+1)*4294967296≤u*4294967296:=Nat.mul_le_mul_right _ (by omega)
  rw[Nat.mul_comm 4294967296 u];omega
 refine⟨by omega,by simp[h.hl],jj h.hu (Nat.mod_lt _ (by omega)),Nat.mod_lt _ (by omega),?_⟩
 have e1:=zi (ls:=limbs x) (i:=i-1) (by omega)
 have e2:=zi (ls:=out.set (i-1) (d/u%4294967296)) (i:=i-1) (by simp;omega)
 rw[show i-1+1=i by omega]at e1 e2
 have e3:(out.set (i-1) (d/u%4294967296)).drop i=out.drop i:=List.drop_set_of_lt (by omega)
 have e4:(out.set (i-1) (d/u%4294967296)).getD (i-1) 0=d/u:=by
  rw[List.getD_eq_getElem?_getD,List.getElem?_set_self (by omega)];simp;omega
 rw[e1,e2,e3,e4,Nat.add_mul,Nat.mul_assoc]
 have:=h.hv
 have hdm:=Nat.div_add_mod d u
 rw[Nat.mul_comm u]at hdm
 omega
theorem SmallI.fin{x u r:Nat}{out:List Nat}(h:SmallI x u 0 r out):valL out=x/u∧r=x%u:=by
 have:=h.hv
 have hr:=h.hr
 rw[List.drop_zero,List.drop_zero,qm]at this
 constructor
 ·rw[←this,Nat.mul_comm,Nat.mul_add_div (by omega),Nat.div_eq_of_lt hr,Nat.add_zero]
 ·rw[←this,Nat.mul_comm,Nat.mul_add_mod,Nat.mod_eq_of_lt hr]
theorem Pp{x i:Nat}(h:i<(limbs x).length):valL ((limbs x).drop (i+1))*4294967296+(limbs x).getD i 0=valL ((limbs x).drop i):=by
 rw[zi h];omega
theorem Xg{x i:Nat}(h:(limbs x).length≤2)(hi:0<i):valL ((limbs x).drop i)<4294967296:=by
 have h1:=jk ((limbs x).drop i) (fun u hu=>qF x u (List.mem_of_mem_drop hu))
 have h2:(4294967296:Nat)^((limbs x).drop i).length≤4294967296^1:=Nat.pow_le_pow_right (by omega) (by simp;omega)
 omega
structure RaiseI (x s i c:Nat) (out:List Nat):Prop where
 hi:i≤(limbs x).length
 hl:out.length=(limbs x).length+1
 hu: ∀v∈out,v<4294967296
 hc:c<2^s
 hv:valL (out.take i)+4294967296^i*c=valL ((limbs x).take i)*2^s
theorem RaiseI.start(x s:Nat):RaiseI x s 0 0 (List.replicate ((limbs x).length+1) 0):=⟨by omega,by simp,rep_lt _,Nat.pow_pos (by omega),by simp[valL]⟩
theorem RaiseI.step{x s i c d:Nat}{out:List Nat}(h:RaiseI x s i c out)(hi:i<(limbs x).length)(hd:d=c+(limbs x).getD i 0*2^s):
  RaiseI x s (i+1) (d/4294967296) (out.set i (d%4294967296)):=by
 have hlen:=h.hl
 have hc:=h.hc
 have hg:=q8 x i
 refine⟨hi,by simp[h.hl],jj h.hu (Nat.mod_lt _ (by omega)),?_,?_⟩
 ·rw[Nat.div_lt_iff_lt_mul (by omega)]
  have:((limbs x).getD i 0+1)*2^s≤4294967296*2^s:=Nat.mul_le_mul_right _ (by omega)
  rw[Nat.add_mul]at this
  rw[Nat.mul_comm (2^s)];omega
 ·rw[jz (by omega),qy,Nat.pow_succ]
  have:=h.hv
  have e:4294967296^i*(d%4294967296)+4294967296^i*4294967296*(d/4294967296)=4294967296^i*d:=by
   rw[Nat.mul_assoc,←Nat.mul_add,Nat.mod_add_div]
  rw[Nat.add_assoc,e,hd,Nat.mul_add,Nat.add_mul,Nat.mul_assoc]
  omega
def padL:Nat→Nat→List Nat
 |_,0=>[]
 |v,n+1=>v%4294967296::padL (v/4294967296) n
theorem wz: ∀n v,(padL v n).length=n
 |0,_=>rfl
 |n+1,v=>by simp[padL,wz n]
theorem E3: ∀n v,∀u∈padL v n,u<4294967296
 |0,_,u,h=>by simp[padL]at h
 |n+1,v,u,h=>by
  simp only[padL,List.mem_cons]at h
  rcases h with rfl|h
  ·omega
  ·exact E3 n _ u h
theorem FF: ∀{ls:List Nat},(∀u∈ls,u<4294967296)→ls=padL (valL ls) ls.length
 |[],_=>rfl
 |u::r,h=>by
  have hu:=h u List.mem_cons_self
  have ih:=FF (ls:=r) (fun v hv=>h v (List.mem_cons_of_mem _ hv))
  rw[valL,List.length_cons,padL]
  have e1:(u+4294967296*valL r)%4294967296=u:=by omega
  have e2:(u+4294967296*valL r)/4294967296=valL r:=by omega
  rw[e1,e2,←ih]
theorem JH: ∀n v,v<4294967296^n→valL (padL v n)=v
 |0,v,h=>by simp at h;subst h;rfl
 |n+1,v,h=>by
  rw[Nat.pow_succ]at h
  rw[padL,valL,JH n (v/4294967296) (by omega)];omega
theorem RaiseI.fin{x s c:Nat}{out:List Nat}(h:RaiseI x s (limbs x).length c out)(hs:s≤32):
  out.set (limbs x).length (c%4294967296)=padL (x*2^s) ((limbs x).length+1):=by
 have hlen:=h.hl
 have hc:c<4294967296:=Nat.lt_of_lt_of_le h.hc (Nat.pow_le_pow_right (show 0<2 by omega) hs)
 have hu:=jj h.hu (n:=(limbs x).length) (Nat.mod_lt c (show 0<4294967296 by omega))
 have h1:=FF hu
 have h2:=jz (ls:=out) (n:=(limbs x).length) (x:=c%4294967296) (by omega)
 rw[ji (by simp;omega),Nat.mod_eq_of_lt hc,h.hv,ji (Nat.le_refl _),qm]at h2
 rw[Nat.mod_eq_of_lt hc,h2,List.length_set,hlen]at h1
 rw[Nat.mod_eq_of_lt hc];exact h1
theorem Db(x s:Nat)(hs:s≤32):valL (padL (x*2^s) ((limbs x).length+1))=x*2^s:=by
 refine JH _ _ ?_
 have h1:=wK x
 have h2:(2:Nat)^s≤4294967296:=Nat.pow_le_pow_right (show 0<2 by omega) hs
 rw[Nat.pow_succ]
 unfold nl at h1
 exact Nat.lt_of_lt_of_le ((Nat.mul_lt_mul_right (Nat.pow_pos (by omega))).2 h1) (Nat.mul_le_mul_left _ h2)
theorem AX{a s:Nat}(ha:a<4294967296)(hs:s≤32):a*2^s<18446744073709551616:=by
 have h2:(2:Nat)^s≤4294967296:=Nat.pow_le_pow_right (show 0<2 by omega) hs
 have:=Nat.mul_le_mul (show a≤4294967295 by omega) h2
 omega
theorem Ja{x:Nat}(h:(limbs x).length≤2):x<18446744073709551616:=by
 have h1:=wK x
 have h2:(4294967296:Nat)^nl x≤4294967296^2:=Nat.pow_le_pow_right (by omega) h
 omega
section
section
variable {P:Program}
theorem Cn{t e:TypeId}{ie:TypeInfo}(h:P.underlying t=some (.slice e))(he:P.info? e=some ie)(a:Option Addr)(len cap:Nat)(lo:Option (IntKind×Int))(k:IntKind)(i:Int){l r:Nat}
  (hl:(match lo with|some (_,i)=>i|none=>0)=(l:Int))(hr:i=(r:Int))(hlr:l≤r)(hrc:r≤cap)(w:World):
  (Instr.sliceAt t (.slice a len cap) (lo.map fun p=> .int p.1 p.2) (some (.int k i)) (some (.int k i))).run P w= .ok (.slice (if r=l then a else a.map (·.add (l*ie.size))) (r-l) (r-l)) w:=by
 have hb: ∀(k:IntKind)(i:Int)(y:Nat)(c:BoundsCode)(j:Nat),i=(j:Int)→j≤y→(Instr.sliceBound (.int k i) y c).run P w= .ok j w:=by
  intro k i y c j hi hj
  subst hi
  have:(0:Int)≤j∧(j:Int)≤y:=by omega
  simp only[Instr.sliceBound,asIntOf,Sem.run_bind,Sem.run_pure,Result.andThen_ok,this,and_self,if_true,Int.toNat_natCast]
 have hbounds:(Instr.sliceBounds true len cap (lo.map fun p=> .int p.1 p.2) (some (.int k i)) (some (.int k i))).run P w= .ok (l,r,r) w:=by
  cases lo with
  |none=>
   have hl0:l=0:=by simp at hl;omega
   subst hl0
   simp[Instr.sliceBounds,hb k i cap .slice3Acap r hr hrc,hb k i r .slice3B r hr (Nat.le_refl _)]
  |some p=>
   obtain⟨k0,i0⟩:=p
   simp only at hl
   simp[Instr.sliceBounds,hb k i cap .slice3Acap r hr hrc,hb k i r .slice3B r hr (Nat.le_refl _),hb k0 i0 r .slice3C l hl hlr]
 simp only[Instr.sliceAt,Sem.run_bind,qi h,Result.andThen_ok,Instr.slice,hbounds,qJ he,Sem.run_pure]
theorem NG{t ty:TypeId}{x z z':Operand}{k off n cap es:Nat}{r:Nat}{k2:IntKind}{i2:Int}(hs:qW P t=some es)(hr:i2=(r:Int))(hrn:r≤cap):
  OpOk P (.slice t x none (some z) (some z')) ty [(x,.c (.one (.sl k off n cap))),(z,vInt k2 i2),(z',vInt k2 i2)] [] (.c (.one (.sl k off r r))) []:=
 qo fun a w H β hins _ _=>by
  obtain⟨e,ie,h1,h2,rfl⟩:=qU hs
  obtain⟨b,c,hβ,hxe⟩:=hins _ List.mem_cons_self
  simp only at hβ hxe
  have hz:=(hins (z,vInt k2 i2) (by simp)).1
  have hz':=(hins (z',vInt k2 i2) (by simp)).1
  simp only at hz hz'
  have hsl:=Cn (P:=P) h1 h2 (some ⟨b,off,none⟩) n cap none k2 i2 (l:=0) (r:=r) rfl hr (Nat.zero_le _) (by omega) w
  simp only[Option.map_none,Option.map_some]at hsl
  refine⟨.slice (some ⟨b,off,none⟩) r r,⟨b,c,hβ,rfl⟩,fun _ _ _ _=>?_⟩
  simp only[execOp,hxe,hz,hz',Option.map_none,Option.map_some,Sem.run_bind,hsl,Result.andThen_ok,Sem.run_pure]
  by_cases e:r=0
  ·rw[if_pos e];simp
  ·rw[if_neg e];simp[qY]
theorem M0{t ty:TypeId}{x y z z':Operand}{k off n cap es:Nat}{l r:Nat}{k1:IntKind}{i1:Int}{k2:IntKind}{i2:Int}(hs:qW P t=some es)(hl:i1=(l:Int))(hr:i2=(r:Int))(hlr:l<r)(hrn:r≤cap):
  OpOk P (.slice t x (some y) (some z) (some z')) ty [(x,.c (.one (.sl k off n cap))),(y,vInt k1 i1),(z,vInt k2 i2),(z',vInt k2 i2)] [] (.c (.one (.sl k (off+l*es) (r-l) (r-l)))) []:=
 qo fun a w H β hins _ _=>by
  obtain⟨e,ie,h1,h2,rfl⟩:=qU hs
  obtain⟨b,c,hβ,hxe⟩:=hins _ List.mem_cons_self
  simp only at hβ hxe
  have hy:=(hins (y,vInt k1 i1) (by simp)).1
  have hz:=(hins (z,vInt k2 i2) (by simp)).1
  have hz':=(hins (z',vInt k2 i2) (by simp)).1
  simp only at hy hz hz'
  have hsl:=Cn (P:=P) h1 h2 (some ⟨b,off,none⟩) n cap (some (k1,i1)) k2 i2 (l:=l) (r:=r) hl hr (by omega) (by omega) w
  simp only[Option.map_none,Option.map_some]at hsl
  refine⟨.slice (some ⟨b,off+l*ie.size,none⟩) (r-l) (r-l),⟨b,c,hβ,rfl⟩,fun _ _ _ _=>?_⟩
  simp only[execOp,hxe,hy,hz,hz',Option.map_none,Option.map_some,Sem.run_bind,hsl,Result.andThen_ok,Sem.run_pure]
  rw[if_neg (by omega)];simp[qY]
theorem LX{t ty:TypeId}{x z:Operand}{k n es:Nat}{cs:List Atom}{r:Nat}{k2:IntKind}{i2:Int}(hs:qW P t=some es)(h0:0<es)(hr:i2=(r:Int))(hrn:r≤n)(hn:n*es≤cs.length):
  OpOk P (.slice t x none (some z) none) ty [(x,.c (.one (.gs k n))),(z,vInt k2 i2)] [(k,.grow es cs)] (.c (.one (.gs k r))) []:=
 qo fun a w H β hins hkin _=>by
  obtain⟨e,ie,h1,h2,rfl⟩:=qU hs
  have hx:=hins _ List.mem_cons_self
  have hz:=(hins (z,vInt k2 i2) (by simp)).1
  simp only at hz
  rcases hx with⟨hβ,rfl,hxe⟩|⟨b,c,hβ,hxe⟩
  ·simp only at hxe
   have hr0:r=0:=by omega
   subst hr0
   have hsl:=jV (P:=P) h1 h2 none 0 0 none (some (k2,i2)) (l:=0) (r:=0) rfl hr (Nat.le_refl _) (Nat.le_refl _) w
   simp only[Option.map_none,Option.map_some]at hsl
   refine⟨.slice none 0 0,.inl ⟨hβ,rfl,rfl⟩,fun _ _ _ _=>?_⟩
   simp only[execOp,hxe,hz,Option.map_none,Option.map_some,Sem.run_bind,hsl,Result.andThen_ok,Sem.run_pure]
   rfl
  ·simp only at hxe
   have hrep:(Blk.grow ie.size cs).rep β w H k:=hkin (k,.grow ie.size cs) (by simp)
   have hcap:n≤c:=by
    rcases hrep with⟨h3,_⟩|⟨b',c',arr,T,h3,_,h4,h5,_⟩
    ·rw[hβ]at h3;cases h3
    ·rw[hβ]at h3;cases h3
     exact Nat.le_of_mul_le_mul_right (by omega) h0
   have hsl:=jV (P:=P) h1 h2 (some ⟨b,0,none⟩) n c none (some (k2,i2)) (l:=0) (r:=r) rfl hr (Nat.zero_le _) (by omega) w
   simp only[Option.map_none,Option.map_some]at hsl
   refine⟨.slice (some ⟨b,0,none⟩) r c,.inr ⟨b,c,hβ,rfl⟩,fun _ _ _ _=>?_⟩
   simp only[execOp,hxe,hz,Option.map_none,Option.map_some,Sem.run_bind,hsl,Result.andThen_ok,Sem.run_pure]
   by_cases e:c=0
   ·rw[if_pos e];simp
   ·rw[if_neg e];simp[qY]
theorem ZG{k n es:Nat}{cells cells':List CAtom}{g:Option Nat}(he:g=some es)(h0:0<es)(hl:n*es≤cells.length)(hc:cells.take (n*es)=cells'):RelA k cells g (.gs k n) (.abs (flP cells' n)):=by
 intro β H H' v hle hf hs
 rcases hf with⟨h1,hnil⟩|⟨b2,c2,arr,h1,h2,h3,h4⟩
 ·rcases hs with⟨_,rfl,rfl⟩|⟨b,c,hβ,_⟩
  ·exact⟨none,0,rfl,Nat.le_refl _,.inl (by rw[←hc,hnil];simp)⟩
  ·rw[hβ]at h1;cases h1
 ·rcases hs with⟨hβ,_⟩|⟨b,c,hβ,rfl⟩
  ·rw[hβ]at h1;cases h1
  ·rw[hβ]at h1;cases h1
   have h5:=h4 es he
   refine⟨_,_,rfl,Nat.le_of_mul_le_mul_right (Nat.le_trans hl h5) h0,.inr ⟨_,0,arr,rfl,h2,?_⟩⟩
   have e1:cells'.length=n*es:=by rw[←hc];simp;omega
   have:=h3.take (n*es)
   rw[List.take_take,Nat.min_eq_left (by omega),hc]at this
   rw[e1];simpa using this
def M5(P:Program)(t:TypeId):Bool:=match P.underlying t with|some .string=>true|_=>false
theorem M6{t:TypeId}(h:M5 P t=true):P.underlying t=some .string:=by
 unfold M5 at h
 split at h
 ·assumption
 ·cases h
theorem Bu{t ty:TypeId}{x y:Operand}{s:ByteArray}{kk:IntKind}{i:Int}{j:Nat}(ht:M5 P t=true)(hi:i=(j:Int))(hj:j<256)
  (hall:(List.range 256).all (fun j=>match s[j]? with|some b=>b.toNat==bl j|none=>false)=true):
  OpOk P (.index t x y) ty [(x,.c (.one (.val (.string s)))),(y,vInt kk i)] [] (vInt .u8 ((bl j:Nat):Int)) []:=
 qo fun a w H β hins _ _=>by
  have hx:=(hins (x,.c (.one (.val (.string s)))) (by simp)).1
  have hy:=(hins (y,vInt kk i) (by simp)).1
  simp only at hx hy
  refine⟨.int .u8 ((bl j:Nat):Int),⟨rfl,rfl⟩,fun _ _ _ _=>?_⟩
  have h1:=List.all_eq_true.1 hall j (List.mem_range.2 hj)
  subst hi
  split at h1
  ·rename_i b hb
   have hb':b.toNat=bl j:=by simpa using h1
   simp only[execOp,hx,hy,Instr.index,asIntOf,Sem.run_bind,Sem.run_pure,Result.andThen_ok,qi (M6 ht),Int.natCast_nonneg,if_true,Int.toNat_natCast,hb]
   simp only[Sem.run_pure,Result.andThen_ok,hb']
  ·cases h1
theorem WE{f:FuncId}{ps:List AV}{d n es:Nat}{cells:List CAtom}{cs:List Atom}(hcs:cs=cells.map CAtom.up)(h0:0<es)(hn:n*es=cells.length)
  (h:SigG P f ps [] (.c (.one (.gs d n))) [(d,some (.grow es cs))]):SigG P f ps [] (.c (.one (.abs (flP cells n)))) []:=by
 subst hcs
 refine⟨h.1,fun vs w H β hargs hkin hdis hon=>Calls.mono (h.2 vs w H β hargs (fun p hp=>by simp at hp) (fun p hp=>by simp at hp) hon) ?_⟩
 rintro e w' ⟨v,H',β',he,hs,hv,hb⟩
 have hrep:=hb d (.grow es (cells.map CAtom.up)) List.mem_cons_self
 have hk:kwOf [] [(d,some (Blk.grow es (cells.map CAtom.up)))]=[]:=rfl
 have hk2:knOf [] [(d,some (Blk.grow es (cells.map CAtom.up)))]=[d]:=rfl
 have hk3:kdOf [(d,some (Blk.grow es (cells.map CAtom.up)))]=[]:=rfl
 rw[hk,hk2,hk3]at hs
 rcases hrep with⟨h1,h2⟩|⟨b,c,arr,T,h1,h2,h3,h4,h5⟩
 ·rcases hv with⟨_,rfl,rfl⟩|⟨b,c,h3,_⟩
  ·refine⟨_,H',β,he,⟨hs.os,hs.tape,hs.output,hs.size,fun b hb' _=>hs.keep b hb' (by simp),hs.hle,hs.hnew,hs.hon,fun _ _=>rfl,by simp[knOf],by simp[knOf]⟩,?_,by simp⟩
   exact⟨none,0,rfl,Nat.le_refl _,.inl (by simpa using h2)⟩
  ·rw[h1]at h3;cases h3
 ·rcases hv with⟨h6,_⟩|⟨b',c',h6,rfl⟩
  ·rw[h1]at h6;cases h6
  ·rw[h1]at h6;cases h6
   obtain⟨f1,f2⟩:=hs.fresh d (by simp) b c h1
   have hle:=Heap.set_le arr f1
   have hb0:w.heap.size≤b:=by
    rcases f2 with f2|⟨k0,hk0,_⟩
    ·exact f2
    ·simp at hk0
   rw[List.length_map]at h4 h5
   refine⟨_,H'.set b arr,β,he,⟨hs.os,hs.tape,hs.output,hs.size,fun b hb' _=>hs.keep b hb' (by simp),hs.hle.trans hle,?_,?_,fun _ _=>rfl,by simp[knOf],by simp[knOf]⟩,?_,by simp⟩
   ·intro b' hb'
    by_cases e:b'=b
    ·exact .inr (by omega)
    ·simp only[Heap.set,if_neg e]at hb';exact hs.hnew b' hb'
   ·intro b' cs hb'
    by_cases e:b'=b
    ·subst e
     rw[Heap.set_at]at hb';cases hb'
     exact⟨T,(0,0),h2⟩
    ·simp only[Heap.set,if_neg e]at hb';exact hs.hon b' cs hb'
   ·refine⟨_,c,rfl,?_,.inr ⟨b,0,arr,rfl,Heap.set_at _ _ _,?_⟩⟩
    ·rw[←hn,h3]at h4;exact Nat.le_of_mul_le_mul_right h4 h0
    ·have:=(CSats.of_up h5).mono hle
     simpa using this
end
end
section
section
variable {P:Program}
theorem LY{t ty:TypeId}{x y:Operand}{k n es:Nat}{cs:List Atom}{l:Nat}{k1:IntKind}{i1:Int}(hs:qW P t=some es)(h0:0<es)(hl:i1=(l:Int))(hln:l≤n)(hn:n*es≤cs.length):
  OpOk P (.slice t x (some y) none none) ty [(x,.c (.one (.gs k n))),(y,vInt k1 i1)] [(k,.grow es cs)] (.c (.one (.so k (l*es) l (n-l)))) []:=
 qo fun a w H β hins hkin _=>by
  obtain⟨e,ie,h1,h2,rfl⟩:=qU hs
  have hx:=hins _ List.mem_cons_self
  have hy:=(hins (y,vInt k1 i1) (by simp)).1
  simp only at hy
  rcases hx with⟨hβ,hn0,hxe⟩|⟨b,c,hβ,hxe⟩
  ·simp only at hxe
   have hsl:=jV (P:=P) h1 h2 none 0 0 (some (k1,i1)) none (l:=l) (r:=0) hl rfl (by omega) (Nat.le_refl _) w
   simp only[Option.map_none,Option.map_some]at hsl
   have e0:0-l=0:=by omega
   rw[e0]at hsl
   refine⟨.slice none 0 0,.inl ⟨by omega,none,0,rfl⟩,fun _ _ _ _=>?_⟩
   ·simp only[execOp,hxe,hy,Option.map_none,Option.map_some,Sem.run_bind,hsl,Result.andThen_ok,Sem.run_pure]
    simp
  ·simp only at hxe
   have hrep:(Blk.grow ie.size cs).rep β w H k:=hkin (k,.grow ie.size cs) (by simp)
   have hcap:n≤c:=by
    rcases hrep with⟨h3,_⟩|⟨b',c',arr,T,h3,_,h4,h5,_⟩
    ·rw[hβ]at h3;cases h3
    ·rw[hβ]at h3;cases h3
     exact Nat.le_of_mul_le_mul_right (by omega) h0
   have hsl:=jV (P:=P) h1 h2 (some ⟨b,0,none⟩) n c (some (k1,i1)) none (l:=l) (r:=n) hl rfl (by omega) hcap w
   simp only[Option.map_none,Option.map_some]at hsl
   by_cases hlt:l<n
   ·refine⟨.slice (some ⟨b,l*ie.size,none⟩) (n-l) (c-l),.inr ⟨b,c,hβ,rfl⟩,fun _ _ _ _=>?_⟩
    simp only[execOp,hxe,hy,Option.map_none,Option.map_some,Sem.run_bind,hsl,Result.andThen_ok,Sem.run_pure]
    rw[if_neg (by omega)];simp[qY]
   ·have e0:n-l=0:=by omega
    refine⟨.slice (if c=l then some (⟨b,0,none⟩:Addr)else Option.map (fun a:Addr=>a.add (l*ie.size)) (some ⟨b,0,none⟩)) 0 (c-l),.inl ⟨e0,_,_,rfl⟩,fun _ _ _ _=>?_⟩
    simp only[execOp,hxe,hy,Option.map_none,Option.map_some,Sem.run_bind,hsl,Result.andThen_ok,Sem.run_pure]
    rw[e0]
theorem Yg{t ty:TypeId}{x y:Operand}{k off lo n es:Nat}{kk:IntKind}{i:Int}{j:Nat}{o:Nat}(h:qW P t=some es)(hi:i=(j:Int))(hj:j<n)(ho:o=off+j*es):
  OpOk P (.indexAddr t x y) ty [(x,.c (.one (.so k off lo n))),(y,vInt kk i)] [] (.c (.one (.loc k o))) []:=
 qo fun a w H β hins _ _=>by
  obtain⟨e,ie,h1,h2,rfl⟩:=qU h
  have hx:=hins _ List.mem_cons_self
  rcases hx with⟨hz,_⟩|⟨b,c,hβ,hx⟩
  ·omega
  have hy:=(hins (y,vInt kk i) (by simp)).1
  simp only at hβ hx hy
  subst ho
  have e:j=i.toNat:=by omega
  subst e
  refine⟨_,⟨b,c,hβ,rfl⟩,fun _ _ _ _=>?_⟩
  simp only[execOp,hx,hy,Sem.run_bind,vq h1 h2 (show 0≤i by omega) (show i<n by omega),Result.andThen_ok,Sem.run_pure]
theorem Yh{t ty:TypeId}{x:Operand}{k off lo n:Nat}(h:isSl P t=true):
  OpOk P (.call {callee:= .builtin .len,args:= #[x],argTypes:= #[t]}) ty [(x,.c (.one (.so k off lo n)))] [] (vInt .i64 n) []:=by
 unfold isSl at h
 split at h
 ·rename_i e he;exact D9 he (fun _ _ _ h=>by rcases h with⟨rfl,p,c,h⟩|⟨_,_,_,h⟩<;>exact⟨_,_,h⟩)
 ·cases h
theorem Yd{t ty:TypeId}{x:Operand}{k off lo n es bb:Nat}{z:Array Value}{cs zs:List Atom}(hb:elB P t=some (es,bb))(hz:elZ P t=some z)(hsz:z.size=es)(hn:0<n)(hcs:off+n*es≤cs.length)
  (hzs: ∀β H,Sats β H zs (((Array.range (n*es)).map (z[· %z.size]!)).toList)):
  OpOk P (.call {callee:= .builtin .clear,args:= #[x],argTypes:= #[t]}) ty [(x,.c (.one (.so k off lo n)))] [(k,.grow es cs)] w8 [(k,some (.grow es (spl cs off zs)))]:=by
 intro dst pos after guard a w H β K Q hins hkin _ hon hK
 have hx:=hins _ List.mem_cons_self
 rcases hx with⟨hz,_⟩|⟨b,c,hβ,hx⟩
 ·omega
 obtain⟨hrep,hown⟩:=hkin _ List.mem_cons_self
 rcases hrep with⟨hβ',_⟩|⟨b',c',arr,T,hβ',hb',hcap,hle,hsat⟩
 ·simp only at hβ hβ';rw[hβ]at hβ';cases hβ'
 simp only at hβ hx hβ' hsat hown
 rw[hβ]at hβ';cases hβ'
 obtain⟨e,i,v,h1,h2,hz',rfl⟩:=wj hz
 have hzl:=(hzs β H).length
 have hvl:(((Array.range (n*es)).map (v.cells[· %v.cells.size]!)).toList).length=n*es:=by simp
 obtain⟨w',hrun,hset⟩:=vw (P:=P) (((Array.range (n*es)).map (v.cells[· %v.cells.size]!)).toList) off 0 w arr hb' (Sats.oneC (hzs β H)) (by rw[hvl];omega)
 have hrun':(storeCells ⟨b,off,none⟩ (Builtin.zeroCells v.cells n).toList).run P w= .ok () w':=by
  unfold Builtin.zeroCells;rw[hsz];rw[hsz]at hrun;exact hrun
 have hc:(Builtin.clear_ #[t] ty #[.slice (some ⟨b,off,none⟩) n (c-lo)]).run P w= .ok (.tuple #[]) w':=by
  obtain⟨m,rfl⟩: ∃m,n=m+1:=⟨n-1,by omega⟩
  simp only[Builtin.clear_,List.getElem?_toArray,List.getElem?_cons_zero,Sem.run_bind,qi h1,Result.andThen_ok,jd h2 hz',hrun',Sem.run_pure]
 unfold Oper.wp
 have:(execOp a.eval ⟨dst,.call {callee:= .builtin .clear,args:= #[x],argTypes:= #[t]},ty,pos,after,guard⟩).run P w= .ok (.value (.tuple #[])) w':=by
  simp only[execOp,resolve,Sem.run_bind,Sem.run_pure,Result.andThen_ok,invoke,builtin,List.map_toArray,List.map_cons,List.map_nil,hx,hc]
 rw[this]
 have hspl:(spl cs off zs).length=cs.length:=by simp[spl];omega
 have hsplv:(spl arr.toList off (((Array.range (n*es)).map (v.cells[· %v.cells.size]!)).toList)).length=arr.size:=by simp[spl];omega
 refine hK (.tuple #[]) w' H β ?_ (wP _ _) ?_
 ·simpa[kwOf,knOf,kdOf,look]using Step.setArr hset hβ (hown b c hβ).1 hon
 ·intro k' b1 hb1
  simp only[List.mem_singleton,Prod.mk.injEq,Option.some.injEq]at hb1
  obtain⟨rfl,rfl⟩:=hb1
  generalize hV:((Array.range (n*es)).map (v.cells[· %v.cells.size]!)).toList=V at*
  have hat:=hset.at_
  rw[Nat.add_zero]at hat
  refine .inr ⟨b,c,_,T,hβ,hat,by simpa[hsplv]using hcap,by simp[hspl,hsplv];omega,?_⟩
  have h1:=hsat.spl off (hzs β H)
  have h2:(spl arr.toList off V).take (spl cs off zs).length=spl (arr.toList.take cs.length) off V:=by
   rw[hspl]
   unfold spl
   rw[List.take_append,List.take_append,List.take_take,List.drop_take]
   have e1:min cs.length off=off:=by omega
   have e2:min off cs.length=off:=by omega
   simp[List.length_take]
   have e3:min off arr.size=off:=by omega
   rw[e3]
   have e4:List.take (cs.length-off) V=V:=List.take_of_length_le (by omega)
   rw[e4,e1,List.take_take,e2,Nat.sub_sub]
  simpa[h2]using h1
theorem GL{t:TypeId}{s b:Nat}{z:Array Value}(hb:elB P t=some (s,b))(hz:elZ P t=some z)(k:IntKind)(n:Nat)(hn:n*b≤281474976710656)(hn2:n<9223372036854775808)(hs:0<s)(w:World):
  ∃T,(Instr.makeSlice t (.int k 0) (.int k n)).run P w= .ok (.slice (some ⟨w.heap.size,0,none⟩) 0 n) (w.alloc (.cells ((Array.range (n*s)).map (z[· %z.size]!)) T)):=by
 obtain⟨e,i,h1,h2,rfl,rfl⟩:=wi hb
 obtain⟨e',i',v,h1',h2',hz',rfl⟩:=wj hz
 rw[h1]at h1';cases h1'
 rw[h2]at h2';cases h2'
 refine⟨e,?_⟩
 have hw:IntKind.i64.wrap (n:Int)=(n:Int):=HL hn2
 have hbig: ¬((i.bytes:Int)*(n:Int)>2^48):=by
  have:(i.bytes:Int)*n≤281474976710656:=by
   rw[←Int.natCast_mul,Nat.mul_comm]
   exact Int.ofNat_le.2 hn
  omega
 have hneg: ¬((n:Int)<0):=by omega
 simp only[Instr.makeSlice,Sem.run_bind,qi h1,Result.andThen_ok,asInt,asIntOf,Sem.run_pure,zb h2,hw]
 have hw0:IntKind.i64.wrap 0=0:=by decide
 have hc1: ¬((0:Int)>(n:Int)):=by omega
 have hcond':(((decide ((n:Int)<0)||decide ((i.bytes:Int)*(n:Int)>2^48))||decide ((0:Int)<0)||decide ((0:Int)>(n:Int))))=false:=by
  simp only[hneg,hbig,hc1,decide_false,Bool.or_false,Int.lt_irrefl]
 simp only[hw0]
 simp only[hcond',Bool.false_eq_true,if_false,run_askRoom,Sem.run_bind,Result.andThen_ok,qJ h2,Int.toNat_natCast,Int.toNat_zero]
 by_cases h0:n*i.size=0
 ·have:n=0:=by
   rcases Nat.mul_eq_zero.1 h0 with h|h
   ·exact h
   ·omega
  subst this
  have hm: ∀f:Nat→Value,(Array.range 0).map f= #[]:=by intro f;simp
  simp only[Nat.zero_mul,if_true,Sem.run_pure,Result.andThen_ok,newRow,Sem.run_bind,run_newObj]
  rw[hm,hm]
  rfl
 ·simp only[h0,if_false,Sem.run_bind,jd h2 hz',Result.andThen_ok,Sem.run_pure,newRow,run_newObj]
  rfl
theorem Yi{t ty:TypeId}{x y:Operand}{d n s b:Nat}{z:Array Value}(hb:elB P t=some (s,b))(hz:elZ P t=some z)(hs:0<s)(hn:n*b≤281474976710656)(hn2:n<9223372036854775808):
  OpOk P (.makeSlice t x y) ty [(x,vInt .i64 0),(y,vInt .i64 n)] [] (.c (.one (.gs d 0))) [(d,some (.grow s []))]:=by
 intro dst pos after guard a w H β K Q hins _ _ hon hK
 have hx:=(hins _ List.mem_cons_self).1
 have hy:=(hins (y,vInt .i64 n) (by simp)).1
 simp only at hx hy
 obtain⟨T,hrun⟩:=GL hb hz .i64 n hn hn2 hs w
 unfold Oper.wp
 have:(execOp a.eval ⟨dst,.makeSlice t x y,ty,pos,after,guard⟩).run P w= .ok (.value (.slice (some ⟨w.heap.size,0,none⟩) 0 n)) (w.alloc (.cells ((Array.range (n*s)).map (z[· %z.size]!)) T)):=by
  simp only[execOp,hx,hy,Sem.run_bind,hrun,Result.andThen_ok,Sem.run_pure]
 rw[this]
 refine hK _ _ H (β.set d (some (w.heap.size,n))) ?_ (.inr ⟨_,_,Bm.set_same _ _ _,rfl⟩) ?_
 ·simpa[kwOf,knOf,kdOf,look]using Step.alloc (β:=β) d n (.cells _ T) hon
 ·intro k' b' hb'
  simp only[List.mem_singleton,Prod.mk.injEq,Option.some.injEq]at hb'
  obtain⟨rfl,rfl⟩:=hb'
  exact .inr ⟨w.heap.size,n,_,T,Bm.set_same _ _ _,vF w _,by simp,Nat.zero_le _,trivial⟩
end
end
inductive Ty where
 |nat (k:IntKind)|int (k:IntKind)|bool|str|mag|rat
 |sl (t:Ty)|pr (a b:Ty)|st (t:Ty)|fn (f:FuncId)
 |pt (t:Ty)|cl (f:FuncId) (t:Ty)
inductive Bd where
 |u|n (b:Nat)|s (b:Nat) (e:Bd)|p (a b:Bd)
@[reducible] def Ty.den:Ty→Type
 | .nat _=>Nat| .int _=>Int| .bool=>Bool| .str=>ByteArray| .mag=>Nat| .rat=>Rat
 | .sl t=>List t.den| .pr a b=>a.den×b.den| .st t=>t.den| .fn _=>Unit| .pt t=>t.den| .cl _ t=>t.den
def Ty.dft:(t:Ty)→t.den
 | .nat _=>(0:Nat)| .int _=>(0:Int)| .bool=>false| .str=>ByteArray.empty| .mag=>(0:Nat)| .rat=>(0:Rat)
 | .sl _=>[]| .pr a b=>(a.dft,b.dft)| .st t=>t.dft| .fn _=>()| .pt t=>t.dft| .cl _ t=>t.dft
def Ty.w:Ty→Nat
 | .rat=>3| .pr a b=>a.w+b.w| .st t=>t.w|_=>1
def Ty.agg:Ty→Bool
 | .rat| .pr _ _| .st _=>true
 |_=>false
def kbeq(a b:IntKind):Bool:=decide (a=b)
theorem qN{a b:IntKind}(h:kbeq a b=true):a=b:=of_decide_eq_true h
def Ty.beq:Ty→Ty→Bool
 | .nat k,.nat k'=>kbeq k k'
 | .int k,.int k'=>kbeq k k'
 | .bool,.bool=>true
 | .str,.str=>true
 | .mag,.mag=>true
 | .rat,.rat=>true
 | .sl a,.sl b=>a.beq b
 | .pr a b,.pr c d=>a.beq c&&b.beq d
 | .st a,.st b=>a.beq b
 | .fn f,.fn g=>Nat.beq f g
 | .pt a,.pt b=>a.beq b
 | .cl f a,.cl g b=>Nat.beq f g&&a.beq b
 |_,_=>false
theorem Ty.beq_eq: ∀{a b:Ty},a.beq b=true→a=b
 | .nat _,b,h=>by cases b<;>simp only[Ty.beq,Bool.false_eq_true]at h;rw[qN h]
 | .int _,b,h=>by cases b<;>simp only[Ty.beq,Bool.false_eq_true]at h;rw[qN h]
 | .bool,b,h=>by cases b<;>simp only[Ty.beq,Bool.false_eq_true]at h;rfl
 | .str,b,h=>by cases b<;>simp only[Ty.beq,Bool.false_eq_true]at h;rfl
 | .mag,b,h=>by cases b<;>simp only[Ty.beq,Bool.false_eq_true]at h;rfl
 | .rat,b,h=>by cases b<;>simp only[Ty.beq,Bool.false_eq_true]at h;rfl
 | .sl a,b,h=>by cases b<;>simp only[Ty.beq,Bool.false_eq_true]at h;rw[Ty.beq_eq h]
 | .pr a c,b,h=>by
  cases b<;>simp only[Ty.beq,Bool.false_eq_true]at h
  rw[Bool.and_eq_true]at h;rw[Ty.beq_eq h.1,Ty.beq_eq h.2]
 | .st a,b,h=>by cases b<;>simp only[Ty.beq,Bool.false_eq_true]at h;rw[Ty.beq_eq h]
 | .fn f,b,h=>by cases b<;>simp only[Ty.beq,Bool.false_eq_true]at h;rw[Nat.eq_of_beq_eq_true h]
 | .pt a,b,h=>by cases b<;>simp only[Ty.beq,Bool.false_eq_true]at h;rw[Ty.beq_eq h]
 | .cl f a,b,h=>by
  cases b<;>simp only[Ty.beq,Bool.false_eq_true]at h
  rw[Bool.and_eq_true]at h;rw[Nat.eq_of_beq_eq_true h.1,Ty.beq_eq h.2]
def gt(t:Ty)(l:List t.den)(i:Nat):t.den:=l.getD i t.dft
def lt2(x b:Nat):Prop:=x<2^b
def le2(x b:Nat):Prop:=x≤2^b
def Bnd:(t:Ty)→Bd→t.den→Prop
 | .nat _,.n b,x=>x≤b
 | .int _,.n b,x=>Int.natAbs x≤b
 | .bool,_,_=>True
 | .str,.n b,x=>ByteArray.size x≤b
 | .mag,.n b,x=>lt2 x b
 | .rat,.n b,x=>lt2 (Int.natAbs (Rat.num x)) b∧le2 (Rat.den x) b
 | .sl t,.s n e,l=>List.length l≤n∧ ∀x∈l,Bnd t e x
 | .pr a b,.p c d,x=>Bnd a c x.1∧Bnd b d x.2
 | .st t,e,x=>Bnd t e x
 | .fn _,_,_=>True
 | .pt t,e,x=>Bnd t e x
 | .cl _ t,e,x=>Bnd t e x
 |_,_,_=>False
def Bd.le:Bd→Bd→Bool
 | .u,.u=>true
 | .n a,.n b=>Nat.ble a b
 | .s a e,.s b f=>Nat.ble a b&&e.le f
 | .p a b,.p c d=>a.le c&&b.le d
 |_,_=>false
theorem q9{x a b:Nat}(h:a≤b)(k:lt2 x a):lt2 x b:=Nat.lt_of_lt_of_le k (Nat.pow_le_pow_right (by decide) h)
theorem wn{x a b:Nat}(h:a≤b)(k:le2 x a):le2 x b:=Nat.le_trans k (Nat.pow_le_pow_right (by decide) h)
theorem Bnd.mono: ∀{t:Ty}{a b:Bd}{x:t.den},a.le b=true→Bnd t a x→Bnd t b x
 | .nat _,.n a,.n b,x,h,k=>Nat.le_trans k (Nat.le_of_ble_eq_true h)
 | .int _,.n a,.n b,x,h,k=>Nat.le_trans k (Nat.le_of_ble_eq_true h)
 | .bool,_,_,_,_,_=>trivial
 | .str,.n a,.n b,x,h,k=>Nat.le_trans k (Nat.le_of_ble_eq_true h)
 | .mag,.n a,.n b,x,h,k=>q9 (Nat.le_of_ble_eq_true h) k
 | .rat,.n a,.n b,x,h,k=>⟨q9 (Nat.le_of_ble_eq_true h) k.1,wn (Nat.le_of_ble_eq_true h) k.2⟩
 | .sl t,.s a e,.s b f,l,h,k=>by
  simp only[Bd.le,Bool.and_eq_true]at h
  exact⟨Nat.le_trans k.1 (Nat.le_of_ble_eq_true h.1),fun x hx=>Bnd.mono h.2 (k.2 x hx)⟩
 | .pr a b,.p c d,.p e f,x,h,k=>by
  simp only[Bd.le,Bool.and_eq_true]at h
  exact⟨Bnd.mono h.1 k.1,Bnd.mono h.2 k.2⟩
 | .st t,a,b,x,h,k=>Bnd.mono (t:=t) h k
 | .fn _,_,_,_,_,_=>trivial
 | .pt t,a,b,x,h,k=>Bnd.mono (t:=t) h k
 | .cl _ t,a,b,x,h,k=>Bnd.mono (t:=t) h k
 | .nat _,.n a,.u,x,h,k| .nat _,.n a,.s _ _,x,h,k| .nat _,.n a,.p _ _,x,h,k=>by simp[Bd.le]at h
 | .int _,.n a,.u,x,h,k| .int _,.n a,.s _ _,x,h,k| .int _,.n a,.p _ _,x,h,k=>by simp[Bd.le]at h
 | .str,.n a,.u,x,h,k| .str,.n a,.s _ _,x,h,k| .str,.n a,.p _ _,x,h,k=>by simp[Bd.le]at h
 | .mag,.n a,.u,x,h,k| .mag,.n a,.s _ _,x,h,k| .mag,.n a,.p _ _,x,h,k=>by simp[Bd.le]at h
 | .rat,.n a,.u,x,h,k| .rat,.n a,.s _ _,x,h,k| .rat,.n a,.p _ _,x,h,k=>by simp[Bd.le]at h
 | .sl t,.s a e,.u,x,h,k| .sl t,.s a e,.n _,x,h,k| .sl t,.s a e,.p _ _,x,h,k=>by simp[Bd.le]at h
 | .pr _ _,.p a e,.u,x,h,k| .pr _ _,.p a e,.n _,x,h,k| .pr _ _,.p a e,.s _ _,x,h,k=>by simp[Bd.le]at h
 | .nat _,.u,_,_,_,k| .nat _,.s _ _,_,_,_,k| .nat _,.p _ _,_,_,_,k=>k.elim
 | .int _,.u,_,_,_,k| .int _,.s _ _,_,_,_,k| .int _,.p _ _,_,_,_,k=>k.elim
 | .str,.u,_,_,_,k| .str,.s _ _,_,_,_,k| .str,.p _ _,_,_,_,k=>k.elim
 | .mag,.u,_,_,_,k| .mag,.s _ _,_,_,_,k| .mag,.p _ _,_,_,_,k=>k.elim
 | .rat,.u,_,_,_,k| .rat,.s _ _,_,_,_,k| .rat,.p _ _,_,_,_,k=>k.elim
 | .sl _,.u,_,_,_,k| .sl _,.n _,_,_,_,k| .sl _,.p _ _,_,_,_,k=>k.elim
 | .pr _ _,.u,_,_,_,k| .pr _ _,.n _,_,_,_,k| .pr _ _,.s _ _,_,_,_,k=>k.elim
def ptV(H:Heap)(cells:List CAtom)(p:Value):Prop:= ∃b off arr,p= .pointer (some ⟨b,off,none⟩)∧H b=some arr∧CSats H cells ((arr.toList.drop off).take cells.length)
def ptP(cells:List CAtom):Pred where
 p H v:=ptV H cells v
 mono:=by rintro H H' v h ⟨b,off,arr,h1,h2,h3⟩;exact⟨b,off,arr,h1,h _ _ h2,CSats.mono h h3⟩
 one:=by rintro H v ⟨b,off,arr,rfl,_⟩;rfl
def clP(f:FuncId)(cells:List CAtom):Pred where
 p H v:= ∃q,v= .func (.func f) #[] #[q]∧ptV H cells q
 mono:=by rintro H H' v h ⟨q,h0,hq⟩;exact⟨q,h0,(ptP cells).mono h hq⟩
 one:=by rintro H v ⟨q,rfl,_⟩;rfl
def cellsC:(t:Ty)→t.den→List CAtom
 | .nat k,(x:Nat)=>[.val (.int k (x:Int))]
 | .int k,x=>[.val (.int k x)]
 | .bool,x=>[.val (.bool x)]
 | .str,x=>[.val (.string x)]
 | .mag,x=>[.abs (natP x)]
 | .rat,x=>[crc0 x,crc1 x,crc2 x]
 | .sl t,(l:List t.den)=>[.abs (flP (l.flatMap (cellsC t)) l.length)]
 | .pr a b,x=>cellsC a x.1++cellsC b x.2
 | .st t,x=>cellsC t x
 | .fn f,_=>[.val (.func (.func f) #[] #[])]
 | .pt t,x=>[.abs (ptP (cellsC t x))]
 | .cl f t,x=>[.abs (clP f (cellsC t x))]
def qn(t:Ty)(x:t.den):List Atom:=(cellsC t x).map CAtom.up
theorem qM: ∀(t:Ty)(x:t.den),(cellsC t x).length=t.w
 | .nat _,_| .int _,_| .bool,_| .str,_| .mag,_| .rat,_| .sl _,_| .fn _,_| .pt _,_| .cl _ _,_=>rfl
 | .pr a b,x=>by simp only[cellsC,List.length_append,qM a,qM b,Ty.w]
 | .st t,x=>qM t x
theorem jA(t:Ty)(x:t.den):(qn t x).length=t.w:=by simp[qn,qM]
theorem GX(k:Nat): ∀l:List CAtom,menL k (l.map CAtom.up)=false
 |[]=>rfl
 |a::l=>by cases a<;>simp[menL,Atom.men,CAtom.up,GX k l]
theorem BU(k:Nat)(t:Ty)(x:t.den):menL k (qn t x)=false:=GX k _
def allC(t:Ty)(l:List t.den):List CAtom:=l.flatMap (cellsC t)
def allA(t:Ty)(l:List t.den):List Atom:=l.flatMap (qn t)
theorem qZ(t:Ty): ∀l:List t.den,(allC t l).length=l.length*t.w
 |[]=>by simp[allC]
 |x::l=>by
  have:=qZ t l
  unfold allC at this⊢
  simp only[List.flatMap_cons,List.length_append,qM,this,List.length_cons,Nat.succ_mul];omega
theorem ju(t:Ty)(l:List t.den):allA t l=(allC t l).map CAtom.up:=by
 unfold allA allC qn;rw[List.map_flatMap]
theorem jw(t:Ty)(l:List t.den):(allA t l).length=l.length*t.w:=by rw[ju];simp[qZ]
theorem Gd(t:Ty): ∀(l:List t.den)(i:Nat),i<l.length→((allC t l).drop (i*t.w)).take t.w=cellsC t (gt t l i)
 |[],i,h=>by simp at h
 |x::l,0,_=>by
  have e:allC t (x::l)=cellsC t x++allC t l:=by simp[allC]
  rw[Nat.zero_mul,List.drop_zero,e,List.take_append_of_le_length (by rw[qM];exact Nat.le_refl _),List.take_of_length_le (by rw[qM];exact Nat.le_refl _)]
  rfl
 |x::l,i+1,h=>by
  have e:allC t (x::l)=cellsC t x++allC t l:=by simp[allC]
  rw[e,List.drop_append,List.drop_of_length_le (by rw[qM,Nat.succ_mul];omega),List.nil_append,qM,show(i+1)*t.w-t.w=i*t.w by rw[Nat.succ_mul];omega]
  rw[Gd t l i (by simpa using h)]
  rfl
theorem wC(t:Ty): ∀(l:List t.den)(i:Nat),(allC t l).drop (i*t.w)=allC t (l.drop i)
 |[],i=>by simp[allC]
 |x::l,0=>by simp
 |x::l,i+1=>by
  have e:allC t (x::l)=cellsC t x++allC t l:=by simp[allC]
  rw[e,List.drop_append,List.drop_of_length_le (by rw[qM,Nat.succ_mul];omega),List.nil_append,qM,show(i+1)*t.w-t.w=i*t.w by rw[Nat.succ_mul];omega]
  rw[wC t l i];rfl
theorem vC(t:Ty): ∀(l:List t.den)(i:Nat),(allC t l).take (i*t.w)=allC t (l.take i)
 |[],i=>by simp[allC]
 |x::l,0=>by simp[allC]
 |x::l,i+1=>by
  have e:allC t (x::l)=cellsC t x++allC t l:=by simp[allC]
  rw[e,List.take_append,List.take_of_length_le (by rw[qM,Nat.succ_mul];omega),qM,show(i+1)*t.w-t.w=i*t.w by rw[Nat.succ_mul];omega]
  rw[vC t l i];simp[allC]
theorem Gc(t:Ty)(l:List t.den)(i:Nat)(h:i<l.length):((allA t l).drop (i*t.w)).take t.w=qn t (gt t l i):=by
 rw[ju,←List.map_drop,←List.map_take,Gd t l i h];rfl
theorem Az(t:Ty)(l:List t.den)(i:Nat):(allA t l).drop (i*t.w)=allA t (l.drop i):=by
 rw[ju,←List.map_drop,wC,←ju]
theorem AA(t:Ty)(l:List t.den)(i:Nat):(allA t l).take (i*t.w)=allA t (l.take i):=by
 rw[ju,←List.map_take,vC,←ju]
theorem wc(t:Ty)(l l':List t.den):allA t (l++l')=allA t l++allA t l':=by simp[allA]
theorem PD(t:Ty)(l l':List t.den):allC t (l++l')=allC t l++allC t l':=by simp[allC]
theorem PC(t:Ty)(l:List t.den)(i:Nat)(x:t.den)(h:i<l.length):spl (allA t l) (i*t.w) (qn t x)=allA t (l.set i x):=by
 have e:l.set i x=l.take i++x::l.drop (i+1):=by
  rw[List.set_eq_take_append_cons_drop,if_pos h]
 unfold spl
 rw[e,jA,show i*t.w+t.w=(i+1)*t.w by rw[Nat.succ_mul],AA,Az,wc]
 simp[allA]
theorem vE(k:Nat)(t:Ty)(l:List t.den):menL k (allA t l)=false:=by rw[ju];exact GX k _
theorem G0(ls:List Nat):MG ls=allC (.nat .u32) ls:=by
 induction ls with
 |nil=>rfl
 |cons a l ih=>rw[show allC (.nat .u32) (a::l)=cellsC (.nat .u32) a++allC (.nat .u32) l from rfl,←ih];rfl
theorem D7(n:Nat):natP n=flP (allC (.nat .u32) (limbs n)) (limbs n).length:=by rw[←G0]
theorem wE(n:Nat):qn .mag n=qn (.sl (.nat .u32)) (limbs n):=by
 show[Atom.abs (natP n)]=[Atom.abs (flP (allC (.nat .u32) (limbs n)) (limbs n).length)]
 rw[D7]
theorem H8(d:Nat):[Atom.abs (denP d)]=qn (.sl (.nat .u32)) (denL d):=by
 show[Atom.abs (flP (MG (denL d)) _)]=[Atom.abs (flP (allC (.nat .u32) (denL d)) _)]
 rw[G0]
def bqP(C:Prop):Pred where
 p _ v:= ∃b:Bool,v= .bool b∧(b=true→C)
 mono:=by rintro H H' v _ h;exact h
 one:=by rintro H v ⟨b,rfl,_⟩;rfl
def unP:Pred where
 p _ v:=v.oneC=true
 mono:=by rintro H H' v _ h;exact h
 one:=by rintro H v h;exact h
inductive WA where
 |dt (t:Ty) (b:Bd) (x:t.den)
 |kn (kd:IntKind) (z:Int)
 |vl (u:Value)
 |pp (q:Prop) (i:Decidable q)
 |loc (k off:Nat)
 |el (k i fo w:Nat)
 |ip (t:Ty) (b:Bd) (x:t.den) (fo:Nat)
 |ls (k:Nat) (lo:Option Nat) (n cap w nb:Nat)
 |gs (k n w nb:Nat)
 |so (k lo n w nb:Nat)
 |nn (t:Ty) (b:Bd) (l:List t.den)
 |bq (C:Prop)
 |un
 |mp (k:Nat)
 |fc (t:Ty) (b:Bd) (l:List t.den)
def WA.exp:WA→List Atom
 | .dt t _ x=>qn t x
 | .kn kd z=>[.val (.int kd z)]
 | .vl u=>[.val u]
 | .pp q i=>[.val (.bool (@decide q i))]
 | .loc k off=>[.loc k off]
 | .el k i fo w=>[.loc k (i*w+fo)]
 | .ip t _ x fo=>[.ptr ((cellsC t x).drop fo)]
 | .ls k lo n cap w _=>[.sl k (lo.getD 0*w) n cap]
 | .gs k n _ _=>[.gs k n]
 | .so k lo n w _=>[.so k (lo*w) lo n]
 | .nn t _ l=>[.abs (nnP (allC t l) l.length)]
 | .bq C=>[.abs (bqP C)]
 | .un=>[.abs unP]
 | .mp k=>[.mp k]
 | .fc t _ l=>[.abs (fcP (allC t l) l.length)]
def WA.wd:WA→Nat
 | .dt t _ _=>t.w
 |_=>1
theorem WA.exp_len(a:WA):a.exp.length=a.wd:=by cases a<;>first|rfl|exact jA _ _
def WA.ok:WA→Prop
 | .dt t b x=>Bnd t b x
 | .vl u=>u.oneC=true
 | .ip t b x _=>Bnd t b x
 | .ls _ _ n cap _ nb=>n≤cap∧n≤nb
 | .gs _ n _ nb=>n≤nb
 | .so _ _ n _ nb=>n≤nb
 | .nn t b l=>Bnd (.sl t) b l
 | .fc t b l=>Bnd (.sl t) b l
 |_=>True
def WA.ids:WA→List Nat
 | .loc k _| .el k _ _ _| .ls k _ _ _ _ _| .gs k _ _ _| .so k _ _ _ _| .mp k=>[k]
 |_=>[]
theorem WA.men_ids{a:WA}{k:Nat}(h:menL k a.exp=true):k∈a.ids:=by
 cases a with
 |dt t b x=>rw[show menL k (WA.exp (.dt t b x))=false from BU k t x]at h;cases h
 |_=>simp_all [WA.exp,menL,Atom.men,WA.ids]
def WAs.exp(l:List WA):List Atom:=l.flatMap WA.exp
def WAs.wd:List WA→Nat
 |[]=>0
 |a::l=>a.wd+WAs.wd l
theorem WAs.exp_len: ∀l:List WA,(WAs.exp l).length=WAs.wd l
 |[]=>rfl
 |a::l=>by
  have:=WAs.exp_len l
  unfold WAs.exp at this⊢
  simp only[List.flatMap_cons,List.length_append,WA.exp_len,this,WAs.wd]
def WAs.ids(l:List WA):List Nat:=l.flatMap WA.ids
theorem El{k:Nat}: ∀{l l':List Atom},menL k (l++l')=(menL k l||menL k l')
 |[],_=>rfl
 |a::l,l'=>by simp only[List.cons_append,menL,El,Bool.or_assoc]
theorem WAs.men_ids{k:Nat}: ∀{l:List WA},menL k (WAs.exp l)=true→k∈WAs.ids l
 |[],h=>by simp[WAs.exp,menL]at h
 |a::l,h=>by
  unfold WAs.exp at h
  rw[List.flatMap_cons,El,Bool.or_eq_true]at h
  unfold WAs.ids
  rw[List.flatMap_cons,List.mem_append]
  exact h.imp WA.men_ids (fun h=>WAs.men_ids h)
def WAs.ok(l:List WA):Prop:= ∀a∈l,a.ok
inductive WC where
 |one (a:WA)
 |agg (l:List WA)
inductive WV where
 |c (x:WC)
 |tup (l:List WC)
def WC.cells:WC→List WA
 | .one a=>[a]
 | .agg l=>l
def WC.exp:WC→Cmp
 | .one a=> .one (a.exp.headD (.val (.bool false)))
 | .agg l=> .agg (WAs.exp l)
def WV.exp:WV→AV
 | .c x=> .c x.exp
 | .tup l=> .tup (l.map WC.exp)
def WC.ok:WC→Prop
 | .one a=>a.ok∧a.wd=1
 | .agg l=>WAs.ok l
def WV.ok:WV→Prop
 | .c x=>x.ok
 | .tup l=> ∀x∈l,x.ok
def WC.ids:WC→List Nat
 | .one a=>a.ids
 | .agg l=>WAs.ids l
def WV.ids:WV→List Nat
 | .c x=>x.ids
 | .tup l=>l.flatMap WC.ids
theorem WA.exp_one{a:WA}(h:a.wd=1):a.exp=[a.exp.headD (.val (.bool false))]:=by
 have:=a.exp_len
 rw[h]at this
 match he:a.exp,this with
 |[x],_=>rfl
theorem WC.exp_cells{x:WC}(h:x.ok):x.exp.cells=WAs.exp x.cells:=by
 cases x with
 |one a=>show[_]=WAs.exp [a];simp only[WAs.exp,List.flatMap_cons,List.flatMap_nil,List.append_nil];exact(WA.exp_one h.2).symm
 |agg l=>rfl
theorem WC.men_ids{x:WC}{k:Nat}(h:x.exp.men k=true):k∈x.ids:=by
 cases x with
 |one a=>
  simp only[WC.exp,Cmp.men]at h
  refine WA.men_ids (a:=a) ?_
  match he:a.exp,h with
  |[],h=>simp[Atom.men]at h
  |y::r,h=>simp only[List.headD_cons]at h;simp[menL,h]
 |agg l=>exact WAs.men_ids h
theorem WV.men_ids{x:WV}{k:Nat}(h:x.exp.men k=true):k∈x.ids:=by
 cases x with
 |c a=>exact WC.men_ids h
 |tup l=>
  simp only[WV.exp,AV.men]at h
  simp only[WV.ids,List.mem_flatMap]
  induction l with
  |nil=>simp[menC]at h
  |cons a l ih=>
   simp only[List.map_cons,menC,Bool.or_eq_true]at h
   rcases h with h|h
   ·exact⟨a,List.mem_cons_self,WC.men_ids h⟩
   ·obtain⟨b,hb,hk⟩:=ih h;exact⟨b,List.mem_cons_of_mem _ hb,hk⟩
inductive WB where
 |rig (l:List WA)
 |arr (t:Ty) (b:Bd) (l:List t.den)
 |gro (t:Ty) (b:Bd) (l:List t.den)
 |mp (m:Nat) (L:List KV)
def WB.exp:WB→Blk
 | .rig l=> .rigid (WAs.exp l)
 | .arr t _ l=> .rigid (allA t l)
 | .gro t _ l=> .grow t.w (allA t l)
 | .mp _ L=> .mp (mpL L)
def WB.ok:WB→Prop
 | .rig l=>WAs.ok l
 | .arr t b l=> ∀x∈l,Bnd t b x
 | .gro t b l=> ∀x∈l,Bnd t b x
 | .mp m L=>MOk m L
def WB.ids:WB→List Nat
 | .rig l=>WAs.ids l
 |_=>[]
theorem WB.men_ids{x:WB}{k:Nat}(h:x.exp.men k=true):k∈x.ids:=by
 cases x with
 |rig l=>exact WAs.men_ids h
 |arr t b l=>simp only[WB.exp,Blk.men,vE]at h;cases h
 |gro t b l=>simp only[WB.exp,Blk.men,vE]at h;cases h
 |mp m L=>cases h
def Bd.nb:Bd→Nat
 |Bd.n b=>b
 |_=>0
def Bd.l:Bd→Bd
 | .p a _=>a
 |_=> .u
def Bd.r:Bd→Bd
 | .p _ b=>b
 |_=> .u
def Bd.e:Bd→Bd
 |Bd.s _ f=>f
 |_=> .u
def Bd.len:Bd→Nat
 |Bd.s m _=>m
 |_=>0
def Fu(b:Nat):Bd:= .s (b/32+1) (.n 4294967295)
theorem qg{n b:Nat}(h:n≤2^b):(limbs n).length≤b/32+1:=by
 refine AP (Nat.lt_of_le_of_lt h ?_)
 rw[show(4294967296:Nat)=2^32 from rfl,←Nat.pow_mul]
 exact Nat.pow_lt_pow_right (by decide) (by omega)
theorem Bnd.limbs{n b:Nat}(h:lt2 n b):Bnd (.sl (.nat .u32)) (Fu b) (limbs n):=
 ⟨qg (Nat.le_of_lt h),fun u hu=>Nat.le_of_lt_succ (qF n u hu)⟩
theorem Bnd.denL{d b:Nat}(h:le2 d b):Bnd (.sl (.nat .u32)) (Fu b) (denL d):=by
 unfold Sx.denL
 split
 ·exact⟨Nat.zero_le _,fun u hu=>by simp at hu⟩
 ·exact⟨qg h,fun u hu=>Nat.le_of_lt_succ (qF d u hu)⟩
theorem Bnd.pr{a b:Ty}{c:Bd}{x:(Ty.pr a b).den}(h:Bnd (.pr a b) c x):Bnd a c.l x.1∧Bnd b c.r x.2:=by
 cases c with
 |p e f=>exact h
 |_=>exact h.elim
theorem Bnd.rat{c:Bd}{x:Rat}(h:Bnd .rat c x):lt2 x.num.natAbs c.nb∧le2 x.den c.nb:=by
 cases c with
 |n b=>exact h
 |_=>exact h.elim
theorem Bnd.mag{c:Bd}{x:Nat}(h:Bnd .mag c x):lt2 x c.nb:=by
 cases c with
 |n b=>exact h
 |_=>exact h.elim
theorem Bnd.sl{t:Ty}{c:Bd}{l:List t.den}(h:Bnd (.sl t) c l):l.length≤c.len∧ ∀x∈l,Bnd t c.e x:=by
 cases c with
 |s m f=>exact h
 |_=>exact h.elim
theorem Bnd.nat{k:IntKind}{c:Bd}{x:Nat}(h:Bnd (.nat k) c x):x≤c.nb:=by
 cases c with
 |n b=>exact h
 |_=>exact h.elim
theorem Bnd.int{k:IntKind}{c:Bd}{x:Int}(h:Bnd (.int k) c x):x.natAbs≤c.nb:=by
 cases c with
 |n b=>exact h
 |_=>exact h.elim
theorem Bnd.gt{t:Ty}{e:Bd}{l:List t.den}(h: ∀x∈l,Bnd t e x){i:Nat}(hi:i<l.length):Bnd t e (gt t l i):=by
 refine h _ ?_
 unfold Sx.gt
 rw[List.getD_eq_getElem?_getD,List.getElem?_eq_getElem hi]
 exact List.getElem_mem hi
def ratP(b:Bd)(x:Rat):List WA:=[.pp (x.num<0) inferInstance,.dt .mag (.n b.nb) x.num.natAbs,.dt (.sl (.nat .u32)) (Fu b.nb) (denL x.den)]
theorem R4(b:Bd)(x:Rat):WAs.exp (ratP b x)=qn .rat x:=by
 show[Atom.val (.bool _)]++([Atom.abs _]++(qn (.sl (.nat .u32)) (denL x.den)++[]))=_
 rw[←H8];rfl
theorem VN{b:Bd}{x:Rat}(h:Bnd .rat b x):WAs.ok (ratP b x):=by
 have h:=Bnd.rat h
 intro a ha
 simp only[ratP,List.mem_cons,List.not_mem_nil,or_false]at ha
 rcases ha with rfl|rfl|rfl
 ·trivial
 ·exact h.1
 ·exact Bnd.denL h.2
def cutW:Nat→List WA→Nat→Option (List WA×List WA)
 |0,_,_=>none
 |_+1,l,0=>some ([],l)
 |_+1,[],_+1=>none
 |f+1,a::r,n+1=>bif Nat.ble a.wd (n+1)then(match cutW f r (n+1-a.wd)with|some (x,y)=>some (a::x,y)|none=>none)
  else match a with
   | .dt (.pr t u) b x=>cutW f (.dt t b.l x.1:: .dt u b.r x.2::r) (n+1)
   | .dt (.st t) b x=>cutW f (.dt t b x::r) (n+1)
   | .dt .rat b x=>cutW f (ratP b x++r) (n+1)
   |_=>none
theorem WAs.exp_cons(a:WA)(l:List WA):WAs.exp (a::l)=a.exp++WAs.exp l:=by simp[WAs.exp]
theorem WAs.exp_app(l l':List WA):WAs.exp (l++l')=WAs.exp l++WAs.exp l':=by simp[WAs.exp]
theorem WAs.ok_cons{a:WA}{l:List WA}:WAs.ok (a::l)↔a.ok∧WAs.ok l:=by simp[WAs.ok]
theorem WAs.ok_app{l l':List WA}:WAs.ok (l++l')↔WAs.ok l∧WAs.ok l':=by
 simp only[WAs.ok,List.mem_append]
 exact⟨fun h=>⟨fun a ha=>h a (.inl ha),fun a ha=>h a (.inr ha)⟩,fun h a ha=>ha.elim (h.1 a) (h.2 a)⟩
theorem z8: ∀{f:Nat}{l:List WA}{n:Nat}{x y:List WA},cutW f l n=some (x,y)→WAs.exp l=WAs.exp x++WAs.exp y∧(WAs.exp x).length=n∧(WAs.ok l→WAs.ok x∧WAs.ok y)
 |0,_,_,_,_,h=>by simp[cutW]at h
 |_+1,l,0,x,y,h=>by
  simp[cutW]at h;obtain⟨rfl,rfl⟩:=h
  exact⟨rfl,rfl,fun h=>⟨fun a ha=>by simp at ha,h⟩⟩
 |_+1,[],_+1,_,_,h=>by simp[cutW]at h
 |f+1,a::r,n+1,x,y,h=>by
  simp only[cutW]at h
  cases hb:Nat.ble a.wd (n+1)with
  |true=>
   rw[hb]at h;simp only[cond_true]at h
   cases hc:cutW f r (n+1-a.wd)with
   |none=>rw[hc]at h;cases h
   |some q=>
    obtain⟨x',y'⟩:=q
    rw[hc]at h;simp only[Option.some.injEq,Prod.mk.injEq]at h;obtain⟨rfl,rfl⟩:=h
    obtain⟨h1,h2,h3⟩:=z8 hc
    have hle:=Nat.le_of_ble_eq_true hb
    refine⟨by rw[WAs.exp_cons,h1,WAs.exp_cons,List.append_assoc],by rw[WAs.exp_cons,List.length_append,h2,WA.exp_len];omega,fun hk=>?_⟩
    rw[WAs.ok_cons]at hk⊢
    exact⟨⟨hk.1,(h3 hk.2).1⟩,(h3 hk.2).2⟩
  |false=>
   rw[hb]at h;simp only[cond_false]at h
   split at h
   ·rename_i t u b z
    obtain⟨h1,h2,h3⟩:=z8 h
    refine⟨?_,h2,fun hk=>h3 ?_⟩
    ·rw[←h1,WAs.exp_cons,WAs.exp_cons,WAs.exp_cons,←List.append_assoc]
     congr 1
     show qn _ _=qn _ _++qn _ _
     simp[qn,cellsC]
    ·rw[WAs.ok_cons]at hk
     rw[WAs.ok_cons,WAs.ok_cons]
     exact⟨(Bnd.pr hk.1).1,(Bnd.pr hk.1).2,hk.2⟩
   ·rename_i t b z
    obtain⟨h1,h2,h3⟩:=z8 h
    refine⟨?_,h2,fun hk=>h3 ?_⟩
    ·rw[←h1,WAs.exp_cons,WAs.exp_cons];rfl
    ·rw[WAs.ok_cons]at hk⊢
     exact⟨hk.1,hk.2⟩
   ·rename_i b z
    obtain⟨h1,h2,h3⟩:=z8 h
    refine⟨?_,h2,fun hk=>h3 ?_⟩
    ·rw[←h1,WAs.exp_app,R4,WAs.exp_cons];rfl
    ·rw[WAs.ok_cons]at hk
     rw[WAs.ok_app]
     exact⟨VN hk.1,hk.2⟩
   ·cases h
def carve(l:List WA)(off s:Nat):Option (List WA×List WA×List WA):=
 match cutW 400 l off with
 |some (a,r)=>match cutW 400 r s with
  |some (m,p)=>some (a,m,p)
  |none=>none
 |none=>none
theorem je{l:List WA}{off s:Nat}{a m p:List WA}(h:carve l off s=some (a,m,p)):
  WAs.exp l=WAs.exp a++(WAs.exp m++WAs.exp p)∧(WAs.exp a).length=off∧(WAs.exp m).length=s∧(WAs.ok l→WAs.ok a∧WAs.ok m∧WAs.ok p):=by
 unfold carve at h
 cases h1:cutW 400 l off with
 |none=>rw[h1]at h;cases h
 |some q=>
  obtain⟨a',r⟩:=q
  rw[h1]at h;simp only at h
  cases h2:cutW 400 r s with
  |none=>rw[h2]at h;cases h
  |some q=>
   obtain⟨m',p'⟩:=q
   rw[h2]at h;simp only[Option.some.injEq,Prod.mk.injEq]at h;obtain⟨rfl,rfl,rfl⟩:=h
   obtain⟨e1,l1,o1⟩:=z8 h1
   obtain⟨e2,l2,o2⟩:=z8 h2
   exact⟨by rw[e1,e2],l1,l2,fun hk=>⟨(o1 hk).1,o2 (o1 hk).2⟩⟩
theorem vd{l:List WA}{off s:Nat}{a m p:List WA}(h:carve l off s=some (a,m,p)):((WAs.exp l).drop off).take s=WAs.exp m∧off+s≤(WAs.exp l).length:=by
 obtain⟨e,l1,l2,_⟩:=je h
 rw[e]
 refine⟨?_,by simp only[List.length_append];omega⟩
 rw[List.drop_append,List.drop_of_length_le (by omega),List.nil_append,l1,Nat.sub_self,List.drop_zero,List.take_append_of_le_length (by omega),List.take_of_length_le (by omega)]
theorem CJ{l:List WA}{off s:Nat}{a m p x:List WA}(h:carve l off s=some (a,m,p))(hx:(WAs.exp x).length=s):spl (WAs.exp l) off (WAs.exp x)=WAs.exp (a++(x++p)):=by
 obtain⟨e,l1,l2,_⟩:=je h
 unfold spl
 rw[e,WAs.exp_app,WAs.exp_app,List.take_append_of_le_length (by omega),List.take_of_length_le (by omega)]
 congr 2
 rw[List.drop_append,List.drop_of_length_le (by omega),List.nil_append,List.drop_append,List.drop_of_length_le (by omega),List.nil_append,show off+(WAs.exp x).length-(WAs.exp a).length-(WAs.exp m).length=0 by omega,List.drop_zero]
def G2:(t:Ty)→Bd→t.den→WA
 | .st t,b,x=>G2 t b x
 |t,b,x=> .dt t b x
def unst:WA→WA
 | .dt t b x=>G2 t b x
 |a=>a
theorem G3: ∀(t:Ty)(b:Bd)(x:t.den),(G2 t b x).exp=qn t x∧(Bnd t b x→(G2 t b x).ok)∧(G2 t b x).wd=t.w
 | .st t,b,x=>G3 t b x
 | .nat _,_,_| .int _,_,_| .bool,_,_| .str,_,_| .mag,_,_| .rat,_,_| .sl _,_,_| .pr _ _,_,_| .fn _,_,_| .pt _,_,_| .cl _ _,_,_=>⟨rfl,fun h=>h,rfl⟩
theorem Pb(a:WA):(unst a).exp=a.exp∧(a.ok→(unst a).ok)∧(unst a).wd=a.wd:=by
 cases a with
 |dt t b x=>exact G3 t b x
 |_=>exact⟨rfl,fun h=>h,rfl⟩
theorem j5: ∀{l:List Atom},AImps l l
 |[]=>trivial
 |_::_=>⟨Kt,j5⟩
theorem vR: ∀{a a' b b':List Atom},AImps a a'→AImps b b'→AImps (a++b) (a'++b')
 |[],[],_,_,_,h=>h
 |_::_,_::_,_,_,h,k=>⟨h.1,vR h.2 k⟩
 |[],_::_,_,_,h,_=>h.elim
 |_::_,[],_,_,h,_=>h.elim
theorem w9: ∀{a b:List Atom},AImps a b→a.length=b.length
 |[],[],_=>rfl
 |_::_,_::_,h=>by simp[w9 h.2]
 |[],_::_,h=>h.elim
 |_::_,[],h=>h.elim
theorem XE{l l':List Atom}(h:l=l'):AImps l l':=h▸j5
theorem BC(t:Ty):AImps [.val (.slice none 0 0)] (qn (.sl t) []):=
 ⟨fun β H v⟨h,_⟩=>by subst h;exact⟨none,0,rfl,Nat.le_refl _,.inl rfl⟩,trivial⟩
theorem Za(t:Ty)(l:List t.den):AImps [.abs (nnP (allC t l) l.length)] (qn (.sl t) l):=⟨fun β H v h=>Oj H v h,trivial⟩
def jB:WA→Bool
 | .vl (.slice none n c)=>Nat.beq n 0&&Nat.beq c 0
 |_=>false
theorem vk{a:WA}(h:jB a=true):a= .vl (.slice none 0 0):=by
 unfold jB at h
 split at h
 ·simp only[Bool.and_eq_true]at h
  rw[Nat.eq_of_beq_eq_true h.1,Nat.eq_of_beq_eq_true h.2]
 ·cases h
def DO:WA→Bool
 | .vl (.bool b)=>!b
 |_=>false
theorem M4{a:WA}(h:DO a=true):a= .vl (.bool false):=by
 unfold DO at h
 split at h
 ·simp at h;rw[h]
 ·cases h
def isFn(f:FuncId):WA→Bool
 | .vl (.func (.func g) a b)=>Nat.beq f g&&Nat.beq a.size 0&&Nat.beq b.size 0
 |_=>false
theorem KW{f:FuncId}{a:WA}(h:isFn f a=true):a= .vl (.func (.func f) #[] #[]):=by
 unfold isFn at h
 split at h
 ·rename_i g x y
  simp only[Bool.and_eq_true]at h
  obtain⟨⟨h1,h2⟩,h3⟩:=h
  rw[Nat.eq_of_beq_eq_true h1,Array.eq_empty_of_size_eq_zero (Nat.eq_of_beq_eq_true h2),Array.eq_empty_of_size_eq_zero (Nat.eq_of_beq_eq_true h3)]
 ·cases h
abbrev j0:{t t':Ty}→t.beq t'=true→t.den→t'.den
 | .nat _,.nat _,_,x=>x
 | .int _,.int _,_,x=>x
 | .mag,.mag,_,x=>x
 | .rat,.rat,_,x=>x
 |_,_,h,x=>(Ty.beq_eq h)▸x
theorem B8{t:Ty}(h:t.beq t=true)(x:t.den):j0 h x=x:=by cases t<;>rfl
def same(t:Ty):List WA→Option (Bd×t.den×List WA)
 | .dt t' b x::r=>if h:t'.beq t=true then some (b,j0 h x,r)else none
 |_=>none
theorem Dm{t:Ty}{l r:List WA}{b:Bd}{x:t.den}(h:same t l=some (b,x,r)):l= .dt t b x::r:=by
 unfold same at h
 split at h
 ·rename_i t' b' x' r'
  split at h
  ·rename_i hb
   have:=Ty.beq_eq hb
   subst this
   simp only[B8,Option.some.injEq,Prod.mk.injEq]at h
   obtain⟨rfl,rfl,rfl⟩:=h
   rfl
  ·cases h
 ·cases h
def leaf:(t:Ty)→List WA→Option (Bd×t.den×List WA)
 | .nat k,.kn k' (.ofNat n)::r=>bif kbeq k k' then some (.n n,n,r)else none
 | .int k,.kn k' z::r=>bif kbeq k k' then some (.n z.natAbs,z,r)else none
 | .int k,.dt (.nat k') b (x:Nat)::r=>bif kbeq k k' then some (.n b.nb,(x:Int),r)else none
 | .bool,.pp q i::r=>some (.u,@decide q i,r)
 | .bool,.vl (.bool b)::r=>some (.u,b,r)
 | .str,.vl (.string s)::r=>some (.n s.size,s,r)
 | .mag,a::r=>bif jB a then some (.n 0,(0:Nat),r)else none
 | .rat,a::b::c::r=>bif DO a&&jB b&&jB c then some (.n 0,(0:Rat),r)else none
 | .sl (.nat .u32),.dt .mag b x::r=>some (Fu b.nb,limbs x,r)
 | .sl t,.nn t' b l::r=>if h:(Ty.sl t').beq (.sl t)=true then some (b,j0 h l,r)else none
 | .sl _,a::r=>bif jB a then some (.s 0 .u,[],r)else none
 | .fn f,a::r=>bif isFn f a then some (.u,(),r)else none
 |_,_=>none
def reify:(t:Ty)→List WA→Option (Bd×t.den×List WA)
 |t,l=>match same t l with
  |some q=>some q
  |none=>match t with
   | .pr a b=>match reify a l with
    |some (b1,x,r)=>match reify b r with
     |some (b2,y,r')=>some (.p b1 b2,(x,y),r')
     |none=>none
    |none=>none
   | .st a=>match reify a l with
    |some (b,x,r)=>some (b,x,r)
    |none=>none
   |t=>leaf t l
def Rd(t:Ty)(l:List WA)(b:Bd)(x:t.den)(r:List WA):Prop:=
 ∃m,WAs.exp l=m++WAs.exp r∧AImps m (qn t x)∧(WAs.ok l→Bnd t b x∧WAs.ok r)
theorem NO{t:Ty}{l r:List WA}{b:Bd}{x:t.den}(h:leaf t l=some (b,x,r)):Rd t l b x r:=by
 unfold leaf at h
 split at h
 ·rename_i k k' n r'
  cases hk:kbeq k k' with
  |false=>rw[hk]at h;cases h
  |true=>
   rw[hk]at h;simp only[cond_true,Option.some.injEq,Prod.mk.injEq]at h;obtain⟨rfl,rfl,rfl⟩:=h
   have:=qN hk;subst this
   exact⟨_,WAs.exp_cons _ _,j5,fun h=>⟨Nat.le_refl _,(WAs.ok_cons.1 h).2⟩⟩
 ·rename_i k k' n r'
  cases hk:kbeq k k' with
  |false=>rw[hk]at h;cases h
  |true=>
   rw[hk]at h;simp only[cond_true,Option.some.injEq,Prod.mk.injEq]at h;obtain⟨rfl,rfl,rfl⟩:=h
   have:=qN hk;subst this
   exact⟨_,WAs.exp_cons _ _,j5,fun h=>⟨Nat.le_refl _,(WAs.ok_cons.1 h).2⟩⟩
 ·rename_i k k' b' x' r'
  cases hk:kbeq k k' with
  |false=>rw[hk]at h;cases h
  |true=>
   rw[hk]at h;simp only[cond_true,Option.some.injEq,Prod.mk.injEq]at h;obtain⟨rfl,rfl,rfl⟩:=h
   have:=qN hk;subst this
   exact⟨_,WAs.exp_cons _ _,j5,fun h=>⟨by have:=Bnd.nat (WAs.ok_cons.1 h).1;show Int.natAbs (Int.ofNat _)≤_;simpa using this,(WAs.ok_cons.1 h).2⟩⟩
 ·simp only[Option.some.injEq,Prod.mk.injEq]at h;obtain⟨rfl,rfl,rfl⟩:=h
  exact⟨_,WAs.exp_cons _ _,j5,fun h=>⟨trivial,(WAs.ok_cons.1 h).2⟩⟩
 ·simp only[Option.some.injEq,Prod.mk.injEq]at h;obtain⟨rfl,rfl,rfl⟩:=h
  exact⟨_,WAs.exp_cons _ _,j5,fun h=>⟨trivial,(WAs.ok_cons.1 h).2⟩⟩
 ·simp only[Option.some.injEq,Prod.mk.injEq]at h;obtain⟨rfl,rfl,rfl⟩:=h
  exact⟨_,WAs.exp_cons _ _,j5,fun h=>⟨Nat.le_refl _,(WAs.ok_cons.1 h).2⟩⟩
 ·rename_i a r'
  cases ha:jB a with
  |false=>rw[ha]at h;cases h
  |true=>
   rw[ha]at h;simp only[cond_true,Option.some.injEq,Prod.mk.injEq]at h;obtain⟨rfl,rfl,rfl⟩:=h
   have:=vk ha;subst this
   exact⟨_,WAs.exp_cons _ _,by rw[wE];exact BC _,fun h=>⟨show(0:Nat)<2^0 from by decide,(WAs.ok_cons.1 h).2⟩⟩
 ·rename_i a b' c r'
  cases ha:DO a&&jB b'&&jB c with
  |false=>rw[ha]at h;cases h
  |true=>
   rw[ha]at h;simp only[cond_true,Option.some.injEq,Prod.mk.injEq]at h;obtain⟨rfl,rfl,rfl⟩:=h
   simp only[Bool.and_eq_true]at ha
   obtain⟨⟨h1,h2⟩,h3⟩:=ha
   have:=M4 h1;subst this
   have:=vk h2;subst this
   have:=vk h3;subst this
   refine⟨[.val (.bool false),.val (.slice none 0 0),.val (.slice none 0 0)],rfl,⟨Kt,?_,?_,trivial⟩,fun h=>⟨⟨show(0:Nat)<2^0 from by decide,show(1:Nat)≤2^0 from by decide⟩,(WAs.ok_cons.1 (WAs.ok_cons.1 (WAs.ok_cons.1 h).2).2).2⟩⟩
   ·have:=(BC (.nat .u32)).1
    intro β H v hv
    exact this β H v hv
   ·have:=(BC (.nat .u32)).1
    intro β H v hv
    exact this β H v hv
 ·rename_i b' x' r'
  simp only[Option.some.injEq,Prod.mk.injEq]at h;obtain⟨rfl,rfl,rfl⟩:=h
  exact⟨_,WAs.exp_cons _ _,XE (wE _),fun h=>⟨Bnd.limbs (Bnd.mag (WAs.ok_cons.1 h).1),(WAs.ok_cons.1 h).2⟩⟩
 ·rename_i t t' b' l' r' _
  split at h
  ·rename_i hb
   have:=Ty.beq_eq hb
   cases this
   simp only[Option.some.injEq,Prod.mk.injEq]at h
   obtain⟨rfl,rfl,rfl⟩:=h
   exact⟨_,WAs.exp_cons _ _,Za _ _,fun h=>⟨(WAs.ok_cons.1 h).1,(WAs.ok_cons.1 h).2⟩⟩
  ·cases h
 ·rename_i t a r' _ _
  cases ha:jB a with
  |false=>rw[ha]at h;cases h
  |true=>
   rw[ha]at h;simp only[cond_true,Option.some.injEq,Prod.mk.injEq]at h;obtain⟨rfl,rfl,rfl⟩:=h
   have:=vk ha;subst this
   exact⟨_,WAs.exp_cons _ _,BC _,fun h=>⟨⟨Nat.le_refl _,fun x hx=>by simp at hx⟩,(WAs.ok_cons.1 h).2⟩⟩
 ·rename_i f a r'
  cases ha:isFn f a with
  |false=>rw[ha]at h;cases h
  |true=>
   rw[ha]at h;simp only[cond_true,Option.some.injEq,Prod.mk.injEq]at h;obtain⟨rfl,_,rfl⟩:=h
   have:=KW ha;subst this
   exact⟨_,WAs.exp_cons _ _,j5,fun h=>⟨trivial,(WAs.ok_cons.1 h).2⟩⟩
 ·cases h
theorem jt: ∀{t:Ty}{l r:List WA}{b:Bd}{x:t.den},reify t l=some (b,x,r)→Rd t l b x r:=by
 intro t
 induction t with
 |pr a b iha ihb=>
  intro l r bd x h
  unfold reify at h
  cases hs:same (.pr a b) l with
  |some q=>
   rw[hs]at h;simp only[Option.some.injEq]at h;subst h
   have:=Dm hs;subst this
   exact⟨_,WAs.exp_cons _ _,j5,fun h=>WAs.ok_cons.1 h⟩
  |none=>
   rw[hs]at h;simp only at h
   cases h1:reify a l with
   |none=>rw[h1]at h;cases h
   |some q=>
    obtain⟨b1,y,r1⟩:=q
    rw[h1]at h;simp only at h
    cases h2:reify b r1 with
    |none=>rw[h2]at h;cases h
    |some q=>
     obtain⟨b2,z,r2⟩:=q
     rw[h2]at h;simp only[Option.some.injEq,Prod.mk.injEq]at h;obtain⟨rfl,rfl,rfl⟩:=h
     obtain⟨m1,e1,i1,o1⟩:=iha h1
     obtain⟨m2,e2,i2,o2⟩:=ihb h2
     refine⟨m1++m2,by rw[e1,e2,List.append_assoc],?_,fun hk=>⟨⟨(o1 hk).1,(o2 (o1 hk).2).1⟩,(o2 (o1 hk).2).2⟩⟩
     have:qn (.pr a b) (y,z)=qn a y++qn b z:=by simp[qn,cellsC]
     rw[this];exact vR i1 i2
 |st a iha=>
  intro l r bd x h
  unfold reify at h
  cases hs:same (.st a) l with
  |some q=>
   rw[hs]at h;simp only[Option.some.injEq]at h;subst h
   have:=Dm hs;subst this
   exact⟨_,WAs.exp_cons _ _,j5,fun h=>WAs.ok_cons.1 h⟩
  |none=>
   rw[hs]at h;simp only at h
   cases h1:reify a l with
   |none=>rw[h1]at h;cases h
   |some q=>
    obtain⟨b1,y,r1⟩:=q
    rw[h1]at h;simp only[Option.some.injEq,Prod.mk.injEq]at h;obtain⟨rfl,rfl,rfl⟩:=h
    exact iha h1
 |_=>
  intro l r bd x h
  unfold reify at h
  split at h
  ·rename_i q hs
   simp only[Option.some.injEq]at h;subst h
   have:=Dm hs;subst this
   exact⟨_,WAs.exp_cons _ _,j5,fun h=>WAs.ok_cons.1 h⟩
  ·exact NO h
def BImp(k:Nat)(b b':Blk):Prop:= ∀β w H,b.rep β w H k→b'.rep β w H k
def LImp:List (Nat×Option Blk)→List (Nat×Option Blk)→Prop
 |[],[]=>True
 |(k,none)::r,(k',none)::r'=>k=k'∧LImp r r'
 |(k,some b)::r,(k',some b')::r'=>k=k'∧BImp k b b'∧LImp r r'
 |_,_=>False
theorem LImp.keys: ∀{l l':List (Nat×Option Blk)},LImp l l'→l.map (fun p=>(p.1,p.2.isSome))=l'.map (fun p=>(p.1,p.2.isSome))
 |[],[],_=>rfl
 |(k,none)::r,(k',none)::r',h=>by simp[h.1,LImp.keys h.2]
 |(k,some b)::r,(k',some b')::r',h=>by simp[h.1,LImp.keys h.2.2]
 |(_,none)::_,(_,some _)::_,h=>h.elim
 |(_,some _)::_,(_,none)::_,h=>h.elim
 |[],_::_,h=>h.elim
 |(_,none)::_,[],h=>h.elim
 |(_,some _)::_,[],h=>h.elim
theorem LImp.get: ∀{l l':List (Nat×Option Blk)},LImp l l'→ ∀{k b'},(k,some b')∈l'→ ∃b,(k,some b)∈l∧BImp k b b'
 |[],[],_,_,_,hm=>by simp at hm
 |(k,none)::r,(k',none)::r',h,q,b',hm=>by
  rcases List.mem_cons.1 hm with e|hm
  ·cases e
  ·obtain⟨b,hb,hi⟩:=LImp.get h.2 hm;exact⟨b,List.mem_cons_of_mem _ hb,hi⟩
 |(k,some b)::r,(k',some b1)::r',h,q,b',hm=>by
  rcases List.mem_cons.1 hm with e|hm
  ·cases e;obtain⟨rfl,h2,_⟩:=h;exact⟨b,List.mem_cons_self,h2⟩
  ·obtain⟨b,hb,hi⟩:=LImp.get h.2.2 hm;exact⟨b,List.mem_cons_of_mem _ hb,hi⟩
 |(_,none)::_,(_,some _)::_,h,_,_,_=>h.elim
 |(_,some _)::_,(_,none)::_,h,_,_,_=>h.elim
 |[],_::_,h,_,_,_=>h.elim
 |(_,none)::_,[],h,_,_,_=>h.elim
 |(_,some _)::_,[],h,_,_,_=>h.elim
theorem Up{kin kin':List (Nat×Blk)}{l l':List (Nat×Option Blk)}(h:l.map (fun p=>(p.1,p.2.isSome))=l'.map (fun p=>(p.1,p.2.isSome)))(hk: ∀k,(look kin k).isSome=(look kin' k).isSome):
  kwOf kin l=kwOf kin' l'∧knOf kin l=knOf kin' l'∧kdOf l=kdOf l':=by
 have h1:l.map (·.1)=l'.map (·.1):=by
  have:=congrArg (List.map Prod.fst) h
  simpa[List.map_map,Function.comp_def]using this
 have hf: ∀(l:List (Nat×Option Blk))(q:Bool),(l.filter fun p=>p.2.isSome==q).map (·.1)=((l.map fun p=>(p.1,p.2.isSome)).filter fun p=>p.2==q).map (·.1):=by
  intro l q
  induction l with
  |nil=>rfl
  |cons a l ih=>simp only[List.filter_cons,List.map_cons];cases a.2.isSome==q<;>simp[ih]
 have h2: ∀q,(l.filter fun p=>p.2.isSome==q).map (·.1)=(l'.filter fun p=>p.2.isSome==q).map (·.1):=fun q=>by rw[hf,hf,h]
 have e1: ∀l:List (Nat×Option Blk),(l.filter (·.2.isSome))=l.filter fun p=>p.2.isSome==true:=fun l=>by congr;funext p;simp
 have e2: ∀l:List (Nat×Option Blk),(l.filter (·.2.isNone))=l.filter fun p=>p.2.isSome==false:=fun l=>by congr;funext p;cases p.2<;>rfl
 refine⟨?_,?_,?_⟩
 ·unfold kwOf;rw[h1];congr;funext k;rw[hk]
 ·unfold knOf;rw[e1,e1,h2]
  congr;funext k
  have:=hk k
  cases h3:look kin k<;>cases h4:look kin' k<;>simp_all
 ·unfold kdOf;rw[e2,e2,h2]
theorem OpOk.weak{P:Program}{op:Op}{ty:TypeId}{ins:List (Operand×AV)}{kin:List (Nat×Blk)}{R R':AV}{Lw Lw':List (Nat×Option Blk)}(h:OpOk P op ty ins kin R Lw)
  (hR: ∀β H v,R.sat β H v→R'.sat β H v)(hL:LImp Lw Lw'):OpOk P op ty ins kin R' Lw':=by
 intro dst pos after guard a w H β K Q h1 h2 h3 h4 hK
 refine h dst pos after guard a w H β K Q h1 h2 h3 h4 ?_
 intro v w' H' β' hs hr hl
 obtain⟨e1,e2,e3⟩:=Up (kin:=kin) (kin':=kin) hL.keys (fun _=>rfl)
 refine hK v w' H' β' (by rw[←e1,←e2,←e3];exact hs) (hR _ _ _ hr) ?_
 intro k b' hb
 obtain⟨b,hm,hi⟩:=hL.get hb
 exact hi _ _ _ (hl k b hm)
theorem v9{k:Nat}{l l':List Atom}(h:AImps l l'):BImp k (.rigid l) (.rigid l'):=fun β w H⟨b,c,arr,T,h1,h2,h3⟩=>⟨b,c,arr,T,h1,h2,AImps.sats h h3⟩
theorem CH{k es:Nat}{l l':List Atom}(h:AImps l l'):BImp k (.grow es l) (.grow es l'):=by
 intro β w H hr
 have hl:=w9 h
 rcases hr with⟨h1,h2⟩|⟨b,c,arr,T,h1,h2,h3,h4,h5⟩
 ·refine .inl ⟨h1,?_⟩
  rw[h2]at hl
  exact List.eq_nil_of_length_eq_zero hl.symm
 ·exact .inr ⟨b,c,arr,T,h1,h2,h3,by omega,by rw[←hl];exact AImps.sats h h5⟩
section
inductive HR where
 |bad
 |ok (vc:List Prop) (R:WV) (ks:List Nat) (Lw:List (Nat×Option WB))
 |spl (q:Prop) (R1 R2:WV)
 |okA (vc:List Prop) (R:WV) (k:Nat) (b':WB)
def LwE(Lw:List (Nat×Option WB)):List (Nat×Option Blk):=Lw.map fun p=>(p.1,p.2.map WB.exp)
def kinE(kin:List (Nat×WB)):List (Nat×Blk):=kin.map fun p=>(p.1,p.2.exp)
def LwOk(Lw:List (Nat×Option WB)):Prop:= ∀k b,(k,some b)∈Lw→b.ok
def v6:WV:= .tup []
theorem zj:v6.ok:=fun x hx=>by simp at hx
def HOk(P:Program)(op:Op)(ty:TypeId)(xs:List Operand)(vs:List WV)(bl:Nat→Option WB):HR→Prop
 | .bad=>True
 | .ok vc R ks Lw=>(∀v∈vs,v.ok)→(∀k b,bl k=some b→b.ok)→(∀p∈vc,p)→ ∀kin:List (Nat×WB),kin.map (·.1)=ks→(∀p∈kin,bl p.1=some p.2)→
   OpOk P op ty (List.zip xs (vs.map WV.exp)) (kinE kin) R.exp (LwE Lw)∧R.ok∧LwOk Lw
 | .spl q R1 R2=>(∀v∈vs,v.ok)→(q→OpOk P op ty (List.zip xs (vs.map WV.exp)) [] R1.exp []∧R1.ok)∧(¬q→OpOk P op ty (List.zip xs (vs.map WV.exp)) [] R2.exp []∧R2.ok)
 | .okA vc R k b'=>(∀v∈vs,v.ok)→(∀k b,bl k=some b→b.ok)→(∀p∈vc,p)→ ∀b,bl k=some b→
   OpOk P op ty (List.zip xs (vs.map WV.exp)) [(k,b.exp)] R.exp []∧OpOk P op ty (List.zip xs (vs.map WV.exp)) [(k,b'.exp)] R.exp []∧R.ok
theorem jn{kin:List (Nat×WB)}{k:Nat}{bl:Nat→Option WB}{b:WB}(h:kin.map (·.1)=[k])(hb: ∀p∈kin,bl p.1=some p.2)(e:bl k=some b):kin=[(k,b)]:=by
 match kin,h with
 |[(q,b')],h=>
  simp at h;subst h
  have:=hb _ List.mem_cons_self
  simp only at this
  rw[e]at this;cases this;rfl
theorem qf{kin:List (Nat×WB)}(h:kin.map (·.1)=[]):kin=[]:=by
 match kin,h with
 |[],_=>rfl
theorem qh:LwOk []:=fun k b h=>by simp at h
theorem jo{k:Nat}{b:WB}(h:b.ok):LwOk [(k,some b)]:=fun q b' hm=>by
 simp only[List.mem_singleton,Prod.mk.injEq,Option.some.injEq]at hm
 obtain⟨_,rfl⟩:=hm;exact h
def Ci(g:Bool)(m:List WA):Option WC:=
 bif g then some (.agg m)else match m with
  |[a]=>bif Nat.beq a.wd 1 then some (.one (unst a))else none
  |_=>none
theorem D5{m:List WA}{x:WC}(h:Ci true m=some x):x= .agg m:=by simp[Ci]at h;exact h.symm
theorem D6{m:List WA}{x:WC}(h:Ci false m=some x): ∃u,x.exp= .one u∧WAs.exp m=[u]∧(WAs.ok m→x.ok):=by
 unfold Ci at h
 simp only[cond_false]at h
 split at h
 ·rename_i a
  cases hw:Nat.beq a.wd 1 with
  |false=>rw[hw]at h;cases h
  |true=>
   rw[hw]at h;simp only[cond_true,Option.some.injEq]at h;subst h
   have hw:=Nat.eq_of_beq_eq_true hw
   obtain⟨h1,h2,h3⟩:=Pb a
   refine⟨_,rfl,?_,fun hk=>⟨h2 (hk a (by simp)),by rw[h3,hw]⟩⟩
   rw[WAs.exp_cons,h1,WA.exp_one hw];rfl
 ·cases h
theorem J9{g:Bool}{m:List WA}{x:WC}(h:Ci g m=some x)(hk:WAs.ok m):x.ok:=by
 cases g with
 |true=>rw[D5 h];exact hk
 |false=>obtain⟨u,_,_,h⟩:=D6 h;exact h hk
def Bp(v:Value):Option WA:=
 match v with
 | .int k z=>some (.kn k z)
 |v=>bif v.oneC then some (.vl v)else none
theorem Ej{v:Value}{a:WA}(h:Bp v=some a):a.exp=[.val v]∧a.ok∧a.wd=1∧v.oneC=true:=by
 unfold Bp at h
 split at h
 ·simp at h;subst h;exact⟨rfl,trivial,rfl,rfl⟩
 ·cases ho:v.oneC with
  |false=>rw[ho]at h;cases h
  |true=>rw[ho]at h;simp at h;subst h;exact⟨rfl,ho,rfl,rfl⟩
def vT:List Value→Option (List WA)
 |[]=>some []
 |v::r=>match Bp v with
  |some a=>match vT r with
   |some l=>some (a::l)
   |none=>none
  |none=>none
theorem vr: ∀{vs:List Value}{l:List WA},vT vs=some l→jy vs=some (WAs.exp l)∧WAs.ok l
 |[],l,h=>by simp[vT]at h;subst h;exact⟨rfl,fun a ha=>by simp at ha⟩
 |v::r,l,h=>by
  simp only[vT]at h
  cases h1:Bp v with
  |none=>rw[h1]at h;cases h
  |some a=>
   rw[h1]at h;simp only at h
   cases h2:vT r with
   |none=>rw[h2]at h;cases h
   |some l'=>
    rw[h2]at h;simp at h;subst h
    obtain⟨e1,o1,w1,c1⟩:=Ej h1
    obtain⟨e2,o2⟩:=vr h2
    refine⟨?_,WAs.ok_cons.2 ⟨o1,o2⟩⟩
    unfold jy at e2⊢
    cases hc:r.all Value.oneC with
    |false=>rw[hc]at e2;cases e2
    |true=>
     rw[hc]at e2;simp at e2
     rw[List.all_cons,c1,hc,WAs.exp_cons,e1,←e2];rfl
def IA(v:Value):Option WV:=
 match Bp v with
 |some a=>some (.c (.one a))
 |none=>match v with
  | .agg arr=>match vT arr.toList with
   |some l=>some (.c (.agg l))
   |none=>none
  |_=>none
theorem Kg{v:Value}{x:WV}(h:IA v=some x):A2 v=some x.exp∧x.ok:=by
 unfold IA at h
 cases h1:Bp v with
 |some a=>
  rw[h1]at h;simp at h;subst h
  obtain⟨e1,o1,w1,c1⟩:=Ej h1
  refine⟨?_,o1,w1⟩
  unfold A2
  rw[c1]
  simp only[cond_true,WV.exp,WC.exp,e1,List.headD_cons]
 |none=>
  rw[h1]at h;simp only at h
  split at h
  ·rename_i arr
   cases h2:vT arr.toList with
   |none=>rw[h2]at h;cases h
   |some l=>
    rw[h2]at h;simp at h;subst h
    obtain⟨e2,o2⟩:=vr h2
    refine⟨?_,o2⟩
    unfold A2
    simp only[Value.oneC,cond_false,e2,Option.map_some];rfl
  ·cases h
section
variable {P:Program} {bl:Nat→Option WB} {ty:TypeId}
theorem Yp{x:Operand}{v:WV}:HOk P (.move x) ty [x] [v] bl (.ok [] v [] []):=fun hv _ _ kin hk _=>by
 rw[qf hk];exact⟨Vp,hv v (by simp),qh⟩
theorem Q8{x:Operand}{v:WV}:HOk P (.assign x) ty [x] [v] bl (.ok [] v [] []):=fun hv _ _ kin hk _=>by
 rw[qf hk];exact⟨Oq,hv v (by simp),qh⟩
def MV:WV→WV→WV→HR
 | .c (.one (.vl (.bool b))),x,y=> .ok [] (bif b then x else y) [] []
 | .c (.one (.pp q _)),x,y=> .spl q x y
 | .c (.one (.dt .bool _ b)),x,y=> .spl (b=true) x y
 |_,_,_=> .bad
theorem Yq{c x y:Operand}{a u v:WV}:HOk P (.pick c x y) ty [c,x,y] [a,u,v] bl (MV a u v):=by
 unfold MV
 split
 ·rename_i b
  intro hv _ _ kin hk _
  rw[qf hk]
  refine⟨?_,by cases b<;>exact hv _ (by simp),qh⟩
  have:=E1 (P:=P) (c:=c) (x:=x) (y:=y) (ty:=ty) (b:=b) (u:=u.exp) (v:=v.exp)
  cases b<;>exact this
 ·rename_i q i
  intro hv
  have:=E1 (P:=P) (c:=c) (x:=x) (y:=y) (ty:=ty) (b:= @decide q i) (u:=u.exp) (v:=v.exp)
  refine⟨fun hq=>⟨?_,hv _ (by simp)⟩,fun hq=>⟨?_,hv _ (by simp)⟩⟩
  ·rw[show @decide q i=true from decide_eq_true hq]at this
   show OpOk P _ _ (List.zip [c,x,y] [.c (.one (.val (.bool (@decide q i)))),_,_]) _ _ _
   rw[show @decide q i=true from decide_eq_true hq];exact this
  ·rw[show @decide q i=false from decide_eq_false hq]at this
   show OpOk P _ _ (List.zip [c,x,y] [.c (.one (.val (.bool (@decide q i)))),_,_]) _ _ _
   rw[show @decide q i=false from decide_eq_false hq];exact this
 ·rename_i bb b
  intro hv
  refine⟨fun hq=>⟨?_,hv _ (by simp)⟩,fun hq=>⟨?_,hv _ (by simp)⟩⟩
  ·subst hq;exact E1 (b:=true)
  ·have:b=false:=by simpa using hq
   subst this;exact E1 (b:=false)
 ·exact trivial
def JP(P:Program)(t:TypeId)(d:Nat):HR:=
 match P.info? t with
 |some ti=>match ti.zero with
  |some z=>match vT z.cells.toList with
   |some zs=> .ok [] (.c (.one (.loc d 0))) [] [(d,some (.rig zs))]
   |none=> .bad
  |none=> .bad
 |none=> .bad
theorem U2{t:TypeId}{d:Nat}:HOk P (.alloc t) ty [] [] bl (JP P t d):=by
 unfold JP
 split
 ·rename_i ti hi
  split
  ·rename_i z hz
   split
   ·rename_i zs hzs
    intro _ _ _ kin hk _
    rw[qf hk]
    obtain⟨h1,h2⟩:=vr hzs
    exact⟨QN hi hz h1,⟨trivial,rfl⟩,jo h2⟩
   ·exact trivial
  ·exact trivial
 ·exact trivial
def wBox(d:Nat):WV→HR
 | .c x=>bif (WAs.ids x.cells).all (fun k=>!Nat.beq k d)then .ok [] (.c (.one (.loc d 0))) [] [(d,some (.rig x.cells))]else .bad
 | .tup _=> .bad
theorem Gs{d:Nat}{l:List WA}(h:(WAs.ids l).all (fun k=>!Nat.beq k d)=true):menL d (WAs.exp l)=false:=by
 cases hm:menL d (WAs.exp l)with
 |false=>rfl
 |true=>
  have:=List.all_eq_true.1 h d (WAs.men_ids hm)
  simp at this
theorem WC.ok_cells{x:WC}(h:x.ok):WAs.ok x.cells:=by
 cases x with
 |one a=>intro b hb;simp[WC.cells]at hb;subst hb;exact h.1
 |agg l=>exact h
theorem q1x{t:TypeId}{x:Operand}{v:WV}{d:Nat}:HOk P (.box t x) ty [x] [v] bl (wBox d v):=by
 unfold wBox
 split
 ·rename_i y
  cases hm:(WAs.ids y.cells).all (fun k=>!Nat.beq k d)with
  |false=>exact trivial
  |true=>
   simp only[cond_true]
   intro hv _ _ kin hk _
   rw[qf hk]
   have hy:y.ok:=hv _ List.mem_cons_self
   have:=Ze (P:=P) (t:=t) (ty:=ty) (d:=d) (x:=x) (v:=y.exp) (by rw[WC.exp_cells hy];exact Gs hm)
   rw[WC.exp_cells hy]at this
   exact⟨this,⟨trivial,rfl⟩,jo (WC.ok_cells hy)⟩
 ·exact trivial
def retM(g:Bool)(vc:List Prop)(m:List WA)(ks:List Nat):HR:=
 match Ci g m with
 |some x=> .ok vc (.c x) ks []
 |none=> .bad
def MT(P:Program)(bl:Nat→Option WB)(t:TypeId):WV→HR
 | .c (.one (.loc k off))=>match bl k with
  |some (.rig l)=>match qB P t with
   |some (g,s)=>match carve l off s with
    |some (_,m,_)=>retM g [] m [k]
    |none=> .bad
   |none=> .bad
  |_=> .bad
 | .c (.one (.el k i fo w))=>match bl k with
  |some (.arr t' b l)=>bif Nat.beq w t'.w then match qB P t with
   |some (g,s)=>match carve [.dt t' b (gt t' l i)] fo s with
    |some (_,m,_)=>retM g [i<l.length] m [k]
    |none=> .bad
   |none=> .bad
   else .bad
  |some (.gro t' b l)=>bif Nat.beq w t'.w then match qB P t with
   |some (g,s)=>match carve [.dt t' b (gt t' l i)] fo s with
    |some (_,m,_)=>retM g [i<l.length] m [k]
    |none=> .bad
   |none=> .bad
   else .bad
  |_=> .bad
 | .c (.one (.ip t' b x fo))=>match qB P t with
   |some (g,s)=>bif Nat.beq s 0 then .bad else match carve [.dt t' b x] fo s with
    |some (_,m,_)=>retM g [] m []
    |none=> .bad
   |none=> .bad
 |_=> .bad
theorem jK(t:Ty)(b:Bd)(x:t.den):WAs.exp [.dt t b x]=qn t x:=by simp[WAs.exp,WA.exp]
theorem BD{α:Type}{l:List α}{off:Nat}{u:α}(h:(l.drop off).take 1=[u]):l[off]?=some u:=by
 have:((l.drop off).take 1)[0]?=some u:=by rw[h];rfl
 rw[List.getElem?_take_of_lt (by decide),List.getElem?_drop]at this
 simpa using this
theorem Ez{t:Ty}{b:Bd}{l:List t.den}{i fo s:Nat}{a m p:List WA}(hi:i<l.length)(h:carve [.dt t b (gt t l i)] fo s=some (a,m,p)):
  ((allA t l).drop (i*t.w+fo)).take s=WAs.exp m∧i*t.w+fo+s≤(allA t l).length:=by
 obtain⟨h1,h2⟩:=vd h
 rw[jK]at h1 h2
 rw[jA]at h2
 have hl:(i+1)*t.w≤l.length*t.w:=Nat.mul_le_mul_right _ hi
 rw[Nat.succ_mul]at hl
 refine⟨?_,by rw[jw];omega⟩
 rw[←h1,←Gc t l i hi,List.drop_take,List.drop_drop,List.take_take,Nat.min_eq_left (by omega)]
theorem zr {g : Bool} {vc : List Prop} {m : List WA} {ks : List Nat} {op : Op} {xs : List Operand} {vs : List WV}
  (hg : ∀ kin : List (Nat × WB), (∀ v ∈ vs, v.ok) → (∀ k b, bl k = some b → b.ok) → (∀ p ∈ vc, p) → kin.map (·.1) = ks → (∀ p ∈ kin, bl p.1 = some p.2) →
   WAs.ok m ∧ (g = true → OpOk P op ty (List.zip xs (vs.map WV.exp)) (kinE kin) (.c (.agg (WAs.exp m))) []) ∧ (∀ u, g = false → WAs.exp m = [u] → OpOk P op ty (List.zip xs (vs.map WV.exp)) (kinE kin) (.c (.one u)) [])) :
  HOk P op ty xs vs bl (retM g vc m ks) := by
 unfold retM
 split
 ·rename_i x hx
  intro hv hb hvc kin hk hkb
  obtain ⟨ho, h1, h2⟩ := hg kin hv hb hvc hk hkb
  refine ⟨?_, J9 hx ho, qh⟩
  cases g with
  | true => rw [D5 hx]; exact h1 rfl
  | false =>
   obtain ⟨u, e1, e2, _⟩ := D6 hx
   show OpOk P op ty _ _ (.c x.exp) _
   rw [e1]; exact h2 u rfl e2
 ·exact trivial
theorem j9{t:Ty}{b:Bd}{x:t.den}(h:Bnd t b x):WAs.ok [.dt t b x]:=fun a ha=>by simp at ha;subst ha;exact h
theorem vX{t:TypeId}{l:List Atom}{u:Atom}{off s:Nat}(h:(l.drop off).take s=[u])(hn:off+s≤l.length):s=1:=by
 have:=congrArg List.length h
 rw[List.length_take,List.length_drop,List.length_singleton]at this
 omega
theorem Yn{t:TypeId}{x:Operand}{v:WV}:HOk P (.load t x) ty [x] [v] bl (MT P bl t v):=by
 unfold MT
 split
 ·rename_i k off
  split
  ·rename_i l hl
   split
   ·rename_i g s hs
    split
    ·rename_i a m p hc
     refine zr fun kin hv hb _ hk hkb=>?_
     rw[jn hk hkb hl]
     obtain⟨h1,h2⟩:=vd hc
     refine⟨((je hc).2.2.2 (hb k _ hl)).2.1,fun hg=>?_,fun u hg hu=>?_⟩
     ·subst hg;exact Ba hs h1 h2
     ·subst hg
      rw[hu]at h1
      have:=vX (t:=t) h1 h2
      subst this
      exact Bb hs (BD h1)
    ·exact trivial
   ·exact trivial
  ·exact trivial
 ·rename_i k i fo w
  split
  ·rename_i t' b l hl
   cases hw:Nat.beq w t'.w with
   |false=>exact trivial
   |true=>
    have hw:=Nat.eq_of_beq_eq_true hw
    subst hw
    simp only[cond_true]
    split
    ·rename_i g s hs
     split
     ·rename_i a m p hc
      refine zr fun kin hv hb hvc hk hkb=>?_
      have hi:i<l.length:=hvc _ List.mem_cons_self
      rw[jn hk hkb hl]
      obtain⟨h1,h2⟩:=Ez hi hc
      refine⟨((je hc).2.2.2 (j9 (Bnd.gt (hb k _ hl) hi))).2.1,fun hg=>?_,fun u hg hu=>?_⟩
      ·subst hg;exact Ba hs h1 h2
      ·subst hg
       rw[hu]at h1
       have:=vX (t:=t) h1 h2
       subst this
       exact Bb hs (BD h1)
     ·exact trivial
    ·exact trivial
  ·rename_i t' b l hl
   cases hw:Nat.beq w t'.w with
   |false=>exact trivial
   |true=>
    have hw:=Nat.eq_of_beq_eq_true hw
    subst hw
    simp only[cond_true]
    split
    ·rename_i g s hs
     split
     ·rename_i a m p hc
      refine zr fun kin hv hb hvc hk hkb=>?_
      have hi:i<l.length:=hvc _ List.mem_cons_self
      rw[jn hk hkb hl]
      obtain⟨h1,h2⟩:=Ez hi hc
      refine⟨((je hc).2.2.2 (j9 (Bnd.gt (hb k _ hl) hi))).2.1,fun hg=>?_,fun u hg hu=>?_⟩
      ·subst hg;exact EK hs h1 h2
      ·subst hg
       rw[hu]at h1
       have:=vX (t:=t) h1 h2
       subst this
       exact Ji hs (BD h1)
     ·exact trivial
    ·exact trivial
  ·exact trivial
 ·rename_i t' b z fo
  split
  ·rename_i g s hs
   cases hs0:Nat.beq s 0 with
   |true=>exact trivial
   |false=>
    simp only[cond_false]
    split
    ·rename_i a m p hc
     refine zr fun kin hv hb hvc hk hkb=>?_
     rw[qf hk]
     have hz:Bnd t' b z:=(hv _ List.mem_cons_self).1
     obtain⟨h1,h2⟩:=vd hc
     rw[jK]at h1 h2
     rw[jA]at h2
     have hs1:0<s:=by
      rcases Nat.eq_zero_or_pos s with h|h
      ·rw[h]at hs0;simp at hs0
      ·exact h
     unfold qn at h1
     rw[←List.map_drop,←List.map_take]at h1
     refine⟨((je hc).2.2.2 (j9 hz)).2.1,fun hg=>?_,fun u hg hu=>?_⟩
     ·subst hg;exact AR hs h1 (by rw[List.length_drop,qM];omega) hs1
     ·subst hg
      rw[hu]at h1
      show OpOk P _ _ [(x,.c (.one (.ptr ((cellsC t' z).drop fo))))] _ _ _
      match he:(cellsC t' z).drop fo,h1 with
      |[],h1=>simp at h1
      |c::r,h1=>
       have:s=s-1+1:=by omega
       rw[this]at h1
       simp only[List.take_succ_cons,List.map_cons,List.cons.injEq]at h1
       rw[←h1.1];exact AS hs
    ·exact trivial
  ·exact trivial
 ·exact trivial
def Cy(k i fo s:Nat)(t':Ty)(b:Bd)(l:List t'.den)(v:WC)(mk:List t'.den→WB):HR:=
 bif Nat.beq (WAs.wd v.cells) s then match carve [.dt t' b (gt t' l i)] fo s with
  |some (a,_,p)=>match reify t' (a++(v.cells++p))with
   |some (b',x,[])=>bif b'.le b then .ok [i<l.length] v6 [k] [(k,some (mk (l.set i x)))]else .ok [i<l.length,Bnd t' b x] v6 [k] [(k,some (mk (l.set i x)))]
   |_=> .bad
  |none=> .bad
 else .bad
def K3(P:Program)(bl:Nat→Option WB)(t:TypeId):WV→WV→HR
 | .c (.one (.loc k off)),.c v=>match bl k with
  |some (.rig l)=>match qB P t with
   |some (_,s)=>bif Nat.beq (WAs.wd v.cells) s then match carve l off s with
    |some (a,_,p)=> .ok [] v6 [k] [(k,some (.rig (a++(v.cells++p))))]
    |none=> .bad
    else .bad
   |none=> .bad
  |_=> .bad
 | .c (.one (.el k i fo w)),.c v=>match bl k with
  |some (.arr t' b l)=>bif Nat.beq w t'.w then match qB P t with
   |some (_,s)=>Cy k i fo s t' b l v (fun l=> .arr t' b l)
   |none=> .bad
   else .bad
  |some (.gro t' b l)=>bif Nat.beq w t'.w then match qB P t with
   |some (_,s)=>Cy k i fo s t' b l v (fun l=> .gro t' b l)
   |none=> .bad
   else .bad
  |_=> .bad
 |_,_=> .bad
theorem Fw{α:Type}{l:List α}{i:Nat}{x y:α}(h:y∈l.set i x):y∈l∨y=x:=List.mem_or_eq_of_mem_set h
theorem IG{t':Ty}{b:Bd}{l:List t'.den}{i fo s:Nat}{a m p:List WA}{v:WC}{b':Bd}{x:t'.den}(hv:v.ok)(hb: ∀x∈l,Bnd t' b x)(hi:i<l.length)(hw:WAs.wd v.cells=s)
  (hc:carve [.dt t' b (gt t' l i)] fo s=some (a,m,p))(hr:reify t' (a++(v.cells++p))=some (b',x,[])):
  AImps (spl (allA t' l) (i*t'.w+fo) v.exp.cells) (allA t' (l.set i x))∧Bnd t' b' x∧v.exp.cells.length=s∧i*t'.w+fo+s≤(allA t' l).length:=by
 have hve:v.exp.cells=WAs.exp v.cells:=WC.exp_cells hv
 have hvl:(WAs.exp v.cells).length=s:=by rw[WAs.exp_len,hw]
 obtain⟨h1,h2⟩:=Ez hi hc
 obtain⟨m',e1,i1,o1⟩:=jt hr
 have hok:=(je hc).2.2.2 (j9 (Bnd.gt hb hi))
 have e1':WAs.exp (a++(v.cells++p))=m':=by rw[e1];simp[WAs.exp]
 have hlen:(WAs.exp (a++(v.cells++p))).length=t'.w:=by rw[e1',w9 i1,jA]
 have hsp:=CJ hc hvl
 rw[jK]at hsp
 refine⟨?_,(o1 (WAs.ok_app.2 ⟨hok.1,WAs.ok_app.2 ⟨WC.ok_cells hv,hok.2.2⟩⟩)).1,by rw[hve,hvl],h2⟩
 rw[←PC t' l i x hi,hve]
 have hel:=Gc t' l i hi
 have hli:i*t'.w+t'.w≤(allA t' l).length:=by
  have:(i+1)*t'.w≤l.length*t'.w:=Nat.mul_le_mul_right _ hi
  rw[jw,←Nat.succ_mul];exact this
 have hfo:fo+s≤t'.w:=by
  have:=(vd hc).2
  rwa [jK,jA]at this
 have key:spl (allA t' l) (i*t'.w+fo) (WAs.exp v.cells)=spl (allA t' l) (i*t'.w) (WAs.exp (a++(v.cells++p))):=by
  rw[←hsp,←hel]
  unfold spl
  have hl2:(((allA t' l).drop (i*t'.w)).take t'.w).length=t'.w:=by rw[List.length_take,List.length_drop];omega
  rw[List.length_append,List.length_append,List.length_take,List.length_drop,hl2,hvl]
  rw[show min fo t'.w=fo by omega,show fo+(s+(t'.w-(fo+s)))=t'.w by omega]
  rw[List.take_add,List.append_assoc,List.append_assoc,List.append_assoc]
  congr 1
  rw[List.take_take,Nat.min_eq_left (by omega)]
  congr 2
  rw[List.drop_take,List.drop_drop,show i*t'.w+(fo+s)=i*t'.w+fo+s by omega]
  have:t'.w-(fo+s)+(i*t'.w+fo+s)=i*t'.w+t'.w:=by omega
  have h9:=(List.take_append_drop (t'.w-(fo+s)) ((allA t' l).drop (i*t'.w+fo+s))).symm
  rw[List.drop_drop (i:=t'.w-(fo+s)),show i*t'.w+fo+s+(t'.w-(fo+s))=i*t'.w+t'.w by omega]at h9
  exact h9
 rw[key]
 unfold spl
 refine vR j5 (vR (by rw[e1'];exact i1) ?_)
 rw[hlen,jA];exact j5
theorem Hk{k i fo s:Nat}{t':Ty}{b:Bd}{l:List t'.den}{v:WC}{mk:List t'.den→WB}{t:TypeId}{x y:Operand}{g:Bool}(hs:qB P t=some (g,s))(hl:bl k=some (mk l))(hmk: ∀l,(mk l).ok↔ ∀x∈l,Bnd t' b x)
  (hop: ∀(l:List t'.den)(v:Cmp)(off:Nat),v.cells.length=s→off+s≤(allA t' l).length→ ∀l',AImps (spl (allA t' l) off v.cells) (allA t' l')→OpOk P (.store t x y) ty [(x,.c (.one (.loc k off))),(y,.c v)] [(k,(mk l).exp)] w8 [(k,some (mk l').exp)]):
  HOk P (.store t x y) ty [x,y] [.c (.one (.el k i fo t'.w)),.c v] bl (Cy k i fo s t' b l v mk):=by
 unfold Cy
 cases hw:Nat.beq (WAs.wd v.cells) s with
 |false=>exact trivial
 |true=>
  simp only[cond_true]
  have hw:=Nat.eq_of_beq_eq_true hw
  split
  ·rename_i a m p hc
   split
   ·rename_i b' z hr
    have main:(∀u∈[(WV.c (.one (.el k i fo t'.w))),.c v],u.ok)→(∀k b,bl k=some b→b.ok)→i<l.length→(Bnd t' b' z→Bnd t' b z)→ ∀kin:List (Nat×WB),kin.map (·.1)=[k]→(∀p∈kin,bl p.1=some p.2)→
      OpOk P (.store t x y) ty (List.zip [x,y] ([(WV.c (.one (.el k i fo t'.w))),.c v].map WV.exp)) (kinE kin) v6.exp (LwE [(k,some (mk (l.set i z)))])∧v6.ok∧LwOk [(k,some (mk (l.set i z)))]:=by
     intro hv hb hi hbz kin hk hkb
     rw[jn hk hkb hl]
     have hlb: ∀x∈l,Bnd t' b x:=(hmk l).1 (hb k _ hl)
     obtain⟨h1,h2,h3,h4⟩:=IG (hv (.c v) (by simp)) hlb hi hw hc hr
     refine⟨hop l v.exp _ h3 h4 _ h1,zj,jo ((hmk _).2 fun u hu=>?_)⟩
     rcases Fw hu with hu|rfl
     ·exact hlb u hu
     ·exact hbz h2
    cases hle:b'.le b with
    |true=>
     simp only[cond_true]
     intro hv hb hvc kin hk hkb
     exact main hv hb (hvc _ List.mem_cons_self) (Bnd.mono hle) kin hk hkb
    |false=>
     simp only[cond_false]
     intro hv hb hvc kin hk hkb
     exact main hv hb (hvc _ List.mem_cons_self) (fun _=>hvc (Bnd t' b z) (by simp)) kin hk hkb
   ·exact trivial
  ·exact trivial
theorem Bj{k:Nat}{b b':Blk}(h:BImp k b b'):LImp [(k,some b)] [(k,some b')]:=⟨rfl,h,trivial⟩
theorem Uf{t:TypeId}{x y:Operand}{p v:WV}:HOk P (.store t x y) ty [x,y] [p,v] bl (K3 P bl t p v):=by
 unfold K3
 split
 ·rename_i k off v
  split
  ·rename_i l hl
   split
   ·rename_i g s hs
    cases hw:Nat.beq (WAs.wd v.cells) s with
    |false=>exact trivial
    |true=>
     simp only[cond_true]
     have hw:=Nat.eq_of_beq_eq_true hw
     split
     ·rename_i a m p hc
      intro hv hb hvc kin hk hkb
      rw[jn hk hkb hl]
      have hv':v.ok:=hv (.c v) (by simp)
      have hvl:(WAs.exp v.cells).length=s:=by rw[WAs.exp_len,hw]
      have:=Jk (P:=P) (ty:=ty) (x:=x) (y:=y) (k:=k) (off:=off) (cs:=WAs.exp l) (v:=v.exp) hs (by rw[WC.exp_cells hv',hvl]) (vd hc).2
      rw[WC.exp_cells hv',CJ hc hvl]at this
      have hok:=(je hc).2.2.2 (hb k _ hl)
      exact⟨this,zj,jo (WAs.ok_app.2 ⟨hok.1,WAs.ok_app.2 ⟨WC.ok_cells hv',hok.2.2⟩⟩)⟩
     ·exact trivial
   ·exact trivial
  ·exact trivial
 ·rename_i k i fo w v
  split
  ·rename_i t' b l hl
   cases hw:Nat.beq w t'.w with
   |false=>exact trivial
   |true=>
    have hw:=Nat.eq_of_beq_eq_true hw
    subst hw
    simp only[cond_true]
    split
    ·rename_i g s hs
     exact Hk hs hl (fun l=>Iff.rfl) fun l v off hvl hn l' hi=>(Jk hs hvl hn).weak (fun _ _ _ h=>h) (Bj (v9 hi))
    ·exact trivial
  ·rename_i t' b l hl
   cases hw:Nat.beq w t'.w with
   |false=>exact trivial
   |true=>
    have hw:=Nat.eq_of_beq_eq_true hw
    subst hw
    simp only[cond_true]
    split
    ·rename_i g s hs
     exact Hk hs hl (fun l=>Iff.rfl) fun l v off hvl hn l' hi=>(CC hs hvl hn).weak (fun _ _ _ h=>h) (Bj (CH hi))
    ·exact trivial
  ·exact trivial
 ·exact trivial
def wNil:WV→HR
 | .c (.one (.loc k off))=> .ok [] (.c (.one (.loc k off))) [] []
 | .c (.one (.el k i fo w))=> .ok [] (.c (.one (.el k i fo w))) [] []
 | .c (.one (.ip t b x fo))=> .ok [] (.c (.one (.ip t b x fo))) [] []
 |_=> .bad
theorem q1B{x:Operand}{v:WV}:HOk P (.nilCheck x) ty [x] [v] bl (wNil v):=by
 unfold wNil
 split
 ·exact fun hv _ _ kin hk _=>by rw[qf hk];exact⟨Bc (Og _ _),hv _ (by simp),qh⟩
 ·exact fun hv _ _ kin hk _=>by rw[qf hk];exact⟨Bc (Og _ _),hv _ (by simp),qh⟩
 ·exact fun hv _ _ kin hk _=>by rw[qf hk];exact⟨Bc (Z4 _),hv _ (by simp),qh⟩
 ·exact trivial
def Cv(P:Program)(s:TypeId)(f:Nat):WV→HR
 | .c (.one (.loc k off))=>match vv P s f with
  |some (fo,_,sz)=>bif Nat.beq sz 0 then .bad else .ok [] (.c (.one (.loc k (off+fo)))) [] []
  |none=> .bad
 | .c (.one (.el k i f0 w))=>match vv P s f with
  |some (fo,_,sz)=>bif Nat.beq sz 0 then .bad else .ok [] (.c (.one (.el k i (f0+fo) w))) [] []
  |none=> .bad
 | .c (.one (.ip t b x f0))=>match vv P s f with
  |some (fo,_,sz)=>bif Nat.beq sz 0 then .bad else .ok [] (.c (.one (.ip t b x (f0+fo)))) [] []
  |none=> .bad
 |_=> .bad
theorem beq0{n:Nat}(h:Nat.beq n 0=false):n≠0:=fun e=>by subst e;simp at h
theorem Kk{s:TypeId}{f:Nat}{x:Operand}{v:WV}:HOk P (.fieldAddr s x f) ty [x] [v] bl (Cv P s f v):=by
 unfold Cv
 split
 ·rename_i k off
  split
  ·rename_i fo ft sz h
   cases hz:Nat.beq sz 0 with
   |true=>exact trivial
   |false=>exact fun hv _ _ kin hk _=>by rw[qf hk];exact⟨As h (beq0 hz),⟨trivial,rfl⟩,qh⟩
  ·exact trivial
 ·rename_i k i f0 w
  split
  ·rename_i fo ft sz h
   cases hz:Nat.beq sz 0 with
   |true=>exact trivial
   |false=>
    exact fun hv _ _ kin hk _=>by
     rw[qf hk]
     refine⟨?_,⟨trivial,rfl⟩,qh⟩
     show OpOk P _ _ _ _ (.c (.one (.loc k (i*w+(f0+fo))))) _
     rw[←Nat.add_assoc]
     exact As h (beq0 hz)
  ·exact trivial
 ·rename_i t b z f0
  split
  ·rename_i fo ft sz h
   cases hz:Nat.beq sz 0 with
   |true=>exact trivial
   |false=>
    exact fun hv _ _ kin hk _=>by
     rw[qf hk]
     refine⟨?_,⟨(hv _ List.mem_cons_self).1,rfl⟩,qh⟩
     show OpOk P _ _ _ _ (.c (.one (.ptr ((cellsC t z).drop (f0+fo))))) _
     rw[←List.drop_drop]
     exact EI h (beq0 hz)
  ·exact trivial
 ·exact trivial
def JV(P:Program)(s:TypeId)(f:Nat):WV→HR
 | .c (.agg l)=>match vv P s f with
  |some (fo,ft,sz)=>match qB P ft with
   |some (g,sz')=>bif Nat.beq sz' sz then(match carve l fo sz with|some (_,m,_)=>retM g [] m []|none=> .bad)else .bad
   |none=> .bad
  |none=> .bad
 |_=> .bad
theorem Ua{s:TypeId}{f:Nat}{x:Operand}{v:WV}:HOk P (.field s x f) ty [x] [v] bl (JV P s f v):=by
 unfold JV
 split
 ·rename_i l
  split
  ·rename_i fo ft sz h
   split
   ·rename_i g sz' hs
    cases hz:Nat.beq sz' sz with
    |false=>exact trivial
    |true=>
     have hz:=Nat.eq_of_beq_eq_true hz
     subst hz
     simp only[cond_true]
     split
     ·rename_i a m p hc
      refine zr fun kin hv hb hvc hk hkb=>?_
      rw[qf hk]
      obtain⟨h1,h2⟩:=vd hc
      refine⟨((je hc).2.2.2 (hv _ List.mem_cons_self)).2.1,fun hg=>?_,fun u hg hu=>?_⟩
      ·subst hg;exact Jg h hs h1
      ·subst hg
       rw[hu]at h1
       have:=vX (t:=ft) h1 h2
       subst this
       exact Jh h hs (BD h1)
     ·exact trivial
   ·exact trivial
  ·exact trivial
 ·exact trivial
end
end
section
section
variable {P:Program} {bl:Nat→Option WB} {ty:TypeId}
theorem AllP.app{a b:List Prop}(h: ∀p∈a++b,p):(∀p∈a,p)∧(∀p∈b,p):=⟨fun p hp=>h p (List.mem_append_left _ hp),fun p hp=>h p (List.mem_append_right _ hp)⟩
def asIx(h:Option Nat):WA→Option (IntKind×Int×Nat×List Prop)
 | .kn k (.ofNat n)=>match h with|none=>some (k,.ofNat n,n,[])|some _=>none
 | .dt (.nat k) _ (x:Nat)=>match h with|none=>some (k,(x:Int),x,[])|some _=>none
 | .dt (.int k) _ z=>match h with|some j=>some (k,z,j,[z=(j:Int)])|none=>none
 |_=>none
theorem wD{h:Option Nat}{a:WA}{k:IntKind}{z:Int}{j:Nat}{vc:List Prop}(e:asIx h a=some (k,z,j,vc)):a.exp=[.val (.int k z)]∧((∀p∈vc,p)→z=(j:Int)):=by
 unfold asIx at e
 split at e
 ·split at e
  ·simp at e;obtain⟨rfl,rfl,rfl,rfl⟩:=e;exact⟨rfl,fun _=>rfl⟩
  ·cases e
 ·split at e
  ·simp only[Option.some.injEq,Prod.mk.injEq]at e;obtain⟨rfl,rfl,rfl,rfl⟩:=e;exact⟨rfl,fun _=>rfl⟩
  ·cases e
 ·split at e
  ·simp only[Option.some.injEq,Prod.mk.injEq]at e;obtain⟨rfl,rfl,rfl,rfl⟩:=e;exact⟨rfl,fun h=>h _ List.mem_cons_self⟩
  ·cases e
 ·cases e
def offs(lo:Option Nat)(j:Nat):Nat:=match lo with|none=>j|some l=>l+j
theorem AQ(lo:Option Nat)(j:Nat):offs lo j=lo.getD 0+j:=by cases lo<;>simp[offs]
def Cw(P:Program)(t:TypeId)(h:Option Nat):WV→WV→HR
 | .c (.one (.loc k off)),.c (.one (.kn _ (.ofNat n)))=>match P.underlying t with
  |some (.array m e)=>match P.info? e with
   |some ie=>bif Nat.blt n m then .ok [] (.c (.one (.loc k (off+n*ie.size)))) [] []else .bad
   |none=> .bad
  |_=> .bad
 | .c (.one (.el k i fo w)),.c (.one (.kn _ (.ofNat n)))=>match P.underlying t with
  |some (.array m e)=>match P.info? e with
   |some ie=>bif Nat.blt n m then .ok [] (.c (.one (.el k i (fo+n*ie.size) w))) [] []else .bad
   |none=> .bad
  |_=> .bad
 | .c (.one (.ip t' b x fo)),.c (.one (.kn _ (.ofNat n)))=>match P.underlying t with
  |some (.array m e)=>match P.info? e with
   |some ie=>bif Nat.blt n m then .ok [] (.c (.one (.ip t' b x (fo+n*ie.size)))) [] []else .bad
   |none=> .bad
  |_=> .bad
 | .c (.one (.ls k lo n cap w nb)),.c (.one a)=>match asIx h a with
  |some (kk,z,j,vc)=>match qW P t with
   |some es=>bif Nat.beq es w then .ok (vc++[j<n]) (.c (.one (.el k (offs lo j) 0 w))) [] []else .bad
   |none=> .bad
  |none=> .bad
 | .c (.one (.gs k n w nb)),.c (.one a)=>match asIx h a with
  |some (kk,z,j,vc)=>match qW P t with
   |some es=>bif Nat.beq es w then .ok (vc++[j<n]) (.c (.one (.el k j 0 w))) [] []else .bad
   |none=> .bad
  |none=> .bad
 | .c (.one (.so k lo n w nb)),.c (.one a)=>match asIx h a with
  |some (kk,z,j,vc)=>match qW P t with
   |some es=>bif Nat.beq es w then .ok (vc++[j<n]) (.c (.one (.el k (lo+j) 0 w))) [] []else .bad
   |none=> .bad
  |none=> .bad
 | .c (.one (.dt (.sl t') b (l:List t'.den))),.c (.one a)=>match asIx h a with
  |some (kk,z,j,vc)=>match qW P t with
   |some es=>bif Nat.beq es t'.w&&Nat.blt 0 t'.w then .ok (vc++[j<l.length]) (.c (.one (.ip t' b.e (gt t' l j) 0))) [] []else .bad
   |none=> .bad
  |none=> .bad
 | .c (.one (.dt .mag b (x:Nat))),.c (.one a)=>match asIx h a with
  |some (kk,z,j,vc)=>match qW P t with
   |some es=>bif Nat.beq es 1 then .ok (vc++[j<(limbs x).length]) (.c (.one (.ip (.nat .u32) (.n 4294967295) (gt (.nat .u32) (limbs x) j) 0))) [] []else .bad
   |none=> .bad
  |none=> .bad
 |_,_=> .bad
theorem qD{a:WA}{k:IntKind}{z:Int}(h:a.exp=[.val (.int k z)]):(WV.c (.one a)).exp=vInt k z:=by
 simp only[WV.exp,WC.exp,h,List.headD_cons]
theorem P1{t':Ty}{l:List t'.den}{j:Nat}{i:Int}(hi:i=(j:Int))(hj:j<l.length)(h0:0<t'.w):HU (flP (allC t' l) l.length) t'.w i (cellsC t' (gt t' l j)):=
 TS hi hj (qZ _ _) (by rw[qM];exact Gd t' l j hj) h0
theorem Kl{t:TypeId}{h:Option Nat}{x y:Operand}{p v:WV}:HOk P (.indexAddr t x y) ty [x,y] [p,v] bl (Cw P t h p v):=by
 unfold Cw
 split
 ·rename_i k off kk n
  split
  ·rename_i m e hu
   split
   ·rename_i ie he
    cases hb:Nat.blt n m with
    |false=>exact trivial
    |true=>
     intro hv _ _ kin hk _
     rw[qf hk]
     have hlt:n<m:=by simpa using hb
     exact⟨vJ (i:= .ofNat n) hu he (Int.natCast_nonneg _) (Int.ofNat_lt.2 hlt),⟨trivial,rfl⟩,qh⟩
   ·exact trivial
  ·exact trivial
 ·rename_i k i fo w kk n
  split
  ·rename_i m e hu
   split
   ·rename_i ie he
    cases hb:Nat.blt n m with
    |false=>exact trivial
    |true=>
     intro hv _ _ kin hk _
     rw[qf hk]
     have hlt:n<m:=by simpa using hb
     refine⟨?_,⟨trivial,rfl⟩,qh⟩
     show OpOk P _ _ _ _ (.c (.one (.loc k (i*w+(fo+n*ie.size))))) _
     rw[←Nat.add_assoc]
     exact vJ (i:= .ofNat n) hu he (Int.natCast_nonneg _) (Int.ofNat_lt.2 hlt)
   ·exact trivial
  ·exact trivial
 ·rename_i t' b z fo kk n
  split
  ·rename_i m e hu
   split
   ·rename_i ie he
    cases hb:Nat.blt n m with
    |false=>exact trivial
    |true=>
     intro hv _ _ kin hk _
     rw[qf hk]
     have hlt:n<m:=by simpa using hb
     refine⟨?_,⟨(hv _ List.mem_cons_self).1,rfl⟩,qh⟩
     show OpOk P _ _ _ _ (.c (.one (.ptr ((cellsC t' z).drop (fo+n*ie.size))))) _
     rw[←List.drop_drop]
     exact Ei (i:= .ofNat n) hu he (Int.natCast_nonneg _) (Int.ofNat_lt.2 hlt)
   ·exact trivial
  ·exact trivial
 ·rename_i k lo n cap w nb a
  split
  ·rename_i kk z j vc ha
   split
   ·rename_i es hes
    cases hb:Nat.beq es w with
    |false=>exact trivial
    |true=>
     have:=Nat.eq_of_beq_eq_true hb;subst this
     intro hv _ hvc kin hk _
     rw[qf hk]
     obtain⟨h1,h2⟩:=wD ha
     obtain⟨hvc1,hvc2⟩:=AllP.app hvc
     refine⟨?_,⟨trivial,rfl⟩,qh⟩
     show OpOk P _ _ [(x,_),(y,(WV.c (.one a)).exp)] _ _ _
     rw[qD h1]
     exact Yf hes (h2 hvc1) (hvc2 _ List.mem_cons_self) (by rw[AQ,Nat.add_mul];rfl)
   ·exact trivial
  ·exact trivial
 ·rename_i k n w nb a
  split
  ·rename_i kk z j vc ha
   split
   ·rename_i es hes
    cases hb:Nat.beq es w with
    |false=>exact trivial
    |true=>
     have:=Nat.eq_of_beq_eq_true hb;subst this
     intro hv _ hvc kin hk _
     rw[qf hk]
     obtain⟨h1,h2⟩:=wD ha
     obtain⟨hvc1,hvc2⟩:=AllP.app hvc
     refine⟨?_,⟨trivial,rfl⟩,qh⟩
     show OpOk P _ _ [(x,_),(y,(WV.c (.one a)).exp)] _ _ _
     rw[qD h1]
     exact Ye hes (h2 hvc1) (hvc2 _ List.mem_cons_self) rfl
   ·exact trivial
  ·exact trivial
 ·rename_i k lo n w nb a
  split
  ·rename_i kk z j vc ha
   split
   ·rename_i es hes
    cases hb:Nat.beq es w with
    |false=>exact trivial
    |true=>
     have:=Nat.eq_of_beq_eq_true hb;subst this
     intro hv _ hvc kin hk _
     rw[qf hk]
     obtain⟨h1,h2⟩:=wD ha
     obtain⟨hvc1,hvc2⟩:=AllP.app hvc
     refine⟨?_,⟨trivial,rfl⟩,qh⟩
     show OpOk P _ _ [(x,_),(y,(WV.c (.one a)).exp)] _ _ _
     rw[qD h1]
     exact Yg hes (h2 hvc1) (hvc2 _ List.mem_cons_self) (by rw[Nat.add_mul];rfl)
   ·exact trivial
  ·exact trivial
 ·rename_i t' b l a
  split
  ·rename_i kk z j vc ha
   split
   ·rename_i es hes
    cases hb:Nat.beq es t'.w&&Nat.blt 0 t'.w with
    |false=>exact trivial
    |true=>
     simp only[Bool.and_eq_true]at hb
     have:=Nat.eq_of_beq_eq_true hb.1;subst this
     have h0:0<t'.w:=by simpa using hb.2
     intro hv _ hvc kin hk _
     rw[qf hk]
     obtain⟨h1,h2⟩:=wD ha
     obtain⟨hvc1,hvc2⟩:=AllP.app hvc
     have hj:j<l.length:=hvc2 _ List.mem_cons_self
     have hB:Bnd (.sl t') b l:=(hv _ List.mem_cons_self).1
     refine⟨?_,⟨Bnd.gt (Bnd.sl hB).2 hj,rfl⟩,qh⟩
     show OpOk P _ _ [(x,_),(y,(WV.c (.one a)).exp)] _ (.c (.one (.ptr ((cellsC t' (gt t' l j)).drop 0)))) _
     rw[qD h1,List.drop_zero]
     exact gIdx hes (P1 (h2 hvc1) hj h0)
   ·exact trivial
  ·exact trivial
 ·rename_i b l a
  split
  ·rename_i kk z j vc ha
   split
   ·rename_i es hes
    cases hb:Nat.beq es 1 with
    |false=>exact trivial
    |true=>
     have:=Nat.eq_of_beq_eq_true hb;subst this
     intro hv _ hvc kin hk _
     rw[qf hk]
     obtain⟨h1,h2⟩:=wD ha
     obtain⟨hvc1,hvc2⟩:=AllP.app hvc
     have hj:j<(limbs l).length:=hvc2 _ List.mem_cons_self
     have hB:Bnd .mag b l:=(hv _ List.mem_cons_self).1
     refine⟨?_,⟨Bnd.gt (t:= .nat .u32) (Bnd.sl (Bnd.limbs (Bnd.mag hB))).2 hj,rfl⟩,qh⟩
     show OpOk P _ _ [(x,(.c (.one (.abs (natP l))))),(y,(WV.c (.one a)).exp)] _ (.c (.one (.ptr ((cellsC (.nat .u32) (gt (.nat .u32) (limbs l) j)).drop 0)))) _
     rw[qD h1,List.drop_zero,D7]
     exact gIdx hes (P1 (t':= .nat .u32) (h2 hvc1) hj (by decide))
   ·exact trivial
  ·exact trivial
 ·exact trivial
theorem D8{t e ty:TypeId}{x y:Operand}{l:List Atom}{m s n:Nat}{g:Bool}{kk:IntKind}{R:AV}(hu:P.underlying t=some (.array m e))(hs:qB P e=some (g,s))(hn:n<m)
  (h1:g=true→R= .c (.agg ((l.drop (n*s)).take s)))(h2:g=false→ ∃u,R= .c (.one u)∧l[n*s]?=some u):
  OpOk P (.index t x y) ty [(x,.c (.agg l)),(y,vInt kk (.ofNat n))] [] R []:=
 qo fun a w H β hins _ _=>by
  obtain⟨arr,hx,hsat⟩:=hins _ List.mem_cons_self
  have hy:=(hins (y,vInt kk (.ofNat n)) (by simp)).1
  simp only at hx hy
  have hsz:(sizeOf e).run P w= .ok s w:=(vx hs w).2
  have hlt:(0:Int)≤Int.ofNat n∧Int.ofNat n<(m:Int):=⟨Int.natCast_nonneg _,Int.ofNat_lt.2 hn⟩
  have hrun: ∀v,(part e arr (n*s)).run P w= .ok v w→ ∀dst pos after guard,(execOp a.eval ⟨dst,.index t x y,ty,pos,after,guard⟩).run P w= .ok (.value v) w:=by
   intro v hv _ _ _ _
   simp only[execOp,hx,hy,Instr.index,asIntOf,Sem.run_bind,Sem.run_pure,Result.andThen_ok,qi hu,if_pos hlt,hsz,show(Int.ofNat n).toNat=n from rfl,hv]
  cases g with
  |true=>
   rw[h1 rfl]
   refine⟨_,⟨_,rfl,?_⟩,hrun _ (Dj hs w)⟩
   have:=(hsat.drop (n*s)).take s
   rw[Array.toList_extract]
   simpa using this
  |false=>
   obtain⟨u,hR,hu'⟩:=h2 rfl
   rw[hR]
   obtain⟨v,hv,hs'⟩:=hsat.get (n*s) hu'
   exact⟨v,hs',hrun _ (Dk hs (by simpa using hv) w)⟩
def JW(P:Program)(t:TypeId):WV→WV→HR
 | .c (.agg l),.c (.one (.kn _ (.ofNat n)))=>match P.underlying t with
  |some (.array m e)=>match qB P e with
   |some (g,s)=>bif Nat.blt n m then(match carve l (n*s) s with|some (_,q,_)=>retM g [] q []|none=> .bad)else .bad
   |none=> .bad
  |_=> .bad
 |_,_=> .bad
theorem Ub{t:TypeId}{x y:Operand}{p v:WV}:HOk P (.index t x y) ty [x,y] [p,v] bl (JW P t p v):=by
 unfold JW
 split
 ·rename_i l kk n
  split
  ·rename_i m e hu
   split
   ·rename_i g s hs
    cases hb:Nat.blt n m with
    |false=>exact trivial
    |true=>
     simp only[cond_true]
     have hlt:n<m:=by simpa using hb
     split
     ·rename_i a q p hc
      refine zr fun kin hv hb hvc hk hkb=>?_
      rw[qf hk]
      obtain⟨h1,h2⟩:=vd hc
      refine⟨((je hc).2.2.2 (hv _ List.mem_cons_self)).2.1,fun hg=>?_,fun u hg hu'=>?_⟩
      ·subst hg
       exact D8 hu hs hlt (fun _=>by rw[h1]) (fun h=>by cases h)
      ·subst hg
       rw[hu']at h1
       have:=vX (t:=e) h1 h2
       subst this
       exact D8 hu hs hlt (fun h=>by cases h) (fun _=>⟨u,rfl,BD h1⟩)
     ·exact trivial
   ·exact trivial
  ·exact trivial
 ·exact trivial
def EY(i:Nat):WV→HR
 | .tup l=>match l[i]? with
  |some x=> .ok [] (.c x) [] []
  |none=> .bad
 |_=> .bad
theorem NI{i:Nat}{x:Operand}{v:WV}:HOk P (.extract x i) ty [x] [v] bl (EY i v):=by
 unfold EY
 split
 ·rename_i l
  split
  ·rename_i z hz
   intro hv _ _ kin hk _
   rw[qf hk]
   refine⟨Mj (by rw[List.getElem?_map,hz];rfl),hv (.tup l) (by simp) z (List.mem_of_getElem? hz),qh⟩
  ·exact trivial
 ·exact trivial
def kmax:IntKind→Nat
 | .i8=>127| .i16=>32767| .i32=>2147483647| .i64=>9223372036854775807
 | .u8=>255| .u16=>65535| .u32=>4294967295| .u64=>18446744073709551615
theorem wu{k:IntKind}{x:Nat}(h:x≤kmax k):k.wrap (x:Int)=(x:Int):=by
 cases k<;>simp[kmax,IntKind.wrap,IntKind.bits,IntKind.signed]at h⊢ <;>omega
theorem zN{k:IntKind}{z:Int}(hs:k.signed=true)(h:z.natAbs≤kmax k):k.wrap z=z:=by
 cases k<;>simp[kmax,IntKind.wrap,IntKind.bits,IntKind.signed]at h hs⊢ <;>omega
def asN:WA→Option (IntKind×Nat×Nat)
 | .dt (.nat k) b (x:Nat)=>some (k,b.nb,x)
 | .kn k (.ofNat n)=>some (k,n,n)
 |_=>none
def asZ:WA→Option (IntKind×Nat×Int)
 | .dt (.nat k) b (x:Nat)=>some (k,b.nb,(x:Int))
 | .dt (.int k) b z=>some (k,b.nb,z)
 | .kn k z=>some (k,z.natAbs,z)
 |_=>none
theorem qT{a:WA}{k:IntKind}{b n:Nat}(h:asN a=some (k,b,n)):a.exp=[.val (.int k (n:Int))]∧(a.ok→n≤b):=by
 unfold asN at h
 split at h
 ·simp only[Option.some.injEq,Prod.mk.injEq]at h;obtain⟨rfl,rfl,rfl⟩:=h;exact⟨rfl,fun h=>Bnd.nat h⟩
 ·simp only[Option.some.injEq,Prod.mk.injEq]at h;obtain⟨rfl,rfl,rfl⟩:=h;exact⟨rfl,fun _=>Nat.le_refl _⟩
 ·cases h
theorem qH{a:WA}{k:IntKind}{b:Nat}{z:Int}(h:asZ a=some (k,b,z)):a.exp=[.val (.int k z)]∧(a.ok→z.natAbs≤b):=by
 unfold asZ at h
 split at h
 ·simp only[Option.some.injEq,Prod.mk.injEq]at h;obtain⟨rfl,rfl,rfl⟩:=h;exact⟨rfl,fun h=>by have:=Bnd.nat h;simpa using this⟩
 ·simp only[Option.some.injEq,Prod.mk.injEq]at h;obtain⟨rfl,rfl,rfl⟩:=h;exact⟨rfl,fun h=>Bnd.int h⟩
 ·simp only[Option.some.injEq,Prod.mk.injEq]at h;obtain⟨rfl,rfl,rfl⟩:=h;exact⟨rfl,fun _=>Nat.le_refl _⟩
 ·cases h
def litZ:WA→Option (IntKind×Int)
 | .kn k z=>some (k,z)
 |_=>none
theorem AM{a:WA}{k:IntKind}{z:Int}(h:litZ a=some (k,z)):a.exp=[.val (.int k z)]:=by
 unfold litZ at h
 split at h
 ·simp only[Option.some.injEq,Prod.mk.injEq]at h;obtain⟨rfl,rfl⟩:=h;rfl
 ·cases h
def vN(k:IntKind)(b n:Nat):WV:= .c (.one (.dt (.nat k) (.n b) n))
def vZ(k:IntKind)(b:Nat)(z:Int):WV:= .c (.one (.dt (.int k) (.n b) z))
def vP(q:Prop)(i:Decidable q):WV:= .c (.one (.pp q i))
theorem Pc(q:Prop)(i:Decidable q):(vP q i).exp=jD (@decide q i):=rfl
def qw(op:BinOp)(k:IntKind)(a b e:Int):Prop:=
 match op with
 | .add=>k.wrap (a+b)=e
 | .sub=>k.wrap (a-b)=e
 | .mul=>k.wrap (a*b)=e
 | .quo=>b≠0∧k.wrap (a.tdiv b)=e
 | .rem=>b≠0∧a.tmod b=e
 | .shl=>0≤b∧k.wrap (a*2^(min b.toNat k.bits))=e
 | .shr=>0≤b∧a.fdiv (2^(min b.toNat k.bits))=e
 | .and=>k.wrap ((BitVec.ofInt k.bits a&&&BitVec.ofInt k.bits b).toNat)=e
 | .or=>k.wrap ((BitVec.ofInt k.bits a|||BitVec.ofInt k.bits b).toNat)=e
 |_=>False
def jH:BinOp→Bool
 | .shl| .shr=>true
 |_=>false
theorem we{op:BinOp}{t ty yt:TypeId}{x y:Operand}{k k':IntKind}{a b e:Int}(h:qw op k a b e)(hk:(kbeq k k'||jH op)=true):
  OpOk P (.binOp op t x y yt) ty [(x,vInt k a),(y,vInt k' b)] [] (vInt k e) []:=by
 have hk':jH op=false→k=k':=fun hs=>by rw[hs,Bool.or_false]at hk;exact qN hk
 cases op<;>first|exact h.elim|skip
 case add=>cases hk' rfl;exact Zc h
 case sub=>cases hk' rfl;exact Ox h
 case mul=>cases hk' rfl;exact Zn h
 case quo=>cases hk' rfl;exact Zq h.1 h.2
 case rem=>cases hk' rfl;exact Zr h.1 h.2
 case and=>cases hk' rfl;exact Zd h
 case or=>cases hk' rfl;exact q1W h
 case shl=>exact Zs h.1 h.2
 case shr=>exact Zt h.1 h.2
def Ma(op:BinOp)(k:IntKind)(a b:Int):Option Int:=
 match op with
 | .add=>some (k.wrap (a+b))
 | .sub=>some (k.wrap (a-b))
 | .mul=>some (k.wrap (a*b))
 | .quo=>match b with| .ofNat (n+1)=>some (k.wrap (a.tdiv (.ofNat (n+1))))|_=>none
 | .rem=>match b with| .ofNat (n+1)=>some (a.tmod (.ofNat (n+1)))|_=>none
 | .shl=>match b with| .ofNat n=>some (k.wrap (a*2^(min n k.bits)))|_=>none
 | .shr=>match b with| .ofNat n=>some (a.fdiv (2^(min n k.bits)))|_=>none
 |_=>none
theorem Mb{op:BinOp}{k:IntKind}{a b e:Int}(h:Ma op k a b=some e):qw op k a b e:=by
 unfold Ma at h
 split at h<;>try(simp only[Option.some.injEq]at h;exact h)
 ·split at h
  ·simp only[Option.some.injEq]at h;exact⟨(fun e=>by cases e),h⟩
  ·cases h
 ·split at h
  ·simp only[Option.some.injEq]at h;exact⟨(fun e=>by cases e),h⟩
  ·cases h
 ·split at h
  ·simp only[Option.some.injEq]at h;exact⟨Int.natCast_nonneg _,h⟩
  ·cases h
 ·split at h
  ·simp only[Option.some.injEq]at h;exact⟨Int.natCast_nonneg _,h⟩
  ·cases h
 ·cases h
def I7(lit:Bool)(n:Nat):List Prop:=bif lit&&Nat.blt 0 n then[]else[0<n]
theorem FJ{lit:Bool}{n:Nat}(h: ∀p∈I7 lit n,p):0<n:=by
 unfold I7 at h
 cases hb:lit&&Nat.blt 0 n with
 |true=>simp only[Bool.and_eq_true]at hb;simpa using hb.2
 |false=>rw[hb]at h;exact h _ List.mem_cons_self
def AK:WA→Bool
 | .kn _ _=>true
 |_=>false
def Me(op:BinOp)(k:IntKind)(b1 n1 b2 n2:Nat)(lit:Bool):Option (Nat×Nat×List Prop):=
 match op with
 | .add=>bif Nat.ble (b1+b2) (kmax k)then some (b1+b2,n1+n2,[])else none
 | .mul=>bif Nat.ble (b1*b2) (kmax k)then some (b1*b2,n1*n2,[])else none
 | .quo=>bif Nat.ble b1 (kmax k)then some (b1,n1/n2,I7 lit n2)else none
 | .rem=>bif Nat.ble b1 (kmax k)then some (bif lit then n2-1 else b2,n1%n2,I7 lit n2)else none
 | .shl=>bif lit&&Nat.ble n2 (k.bits)&&Nat.ble (b1*2^n2) (kmax k)then some (b1*2^n2,n1*2^n2,[])else none
 | .shr=>bif lit&&Nat.ble n2 (k.bits)then some (b1/2^n2,n1/2^n2,[])else none
 |_=>none
theorem Mf{op:BinOp}{k:IntKind}{b1 n1 b2 n2 b n:Nat}{lit:Bool}{vc:List Prop}(h:Me op k b1 n1 b2 n2 lit=some (b,n,vc))(h1:n1≤b1)(h2:n2≤b2)(hvc: ∀p∈vc,p):
  qw op k (n1:Int) (n2:Int) (n:Int)∧n≤b:=by
 unfold Me at h
 split at h
 ·cases hb:Nat.ble (b1+b2) (kmax k)with
  |false=>rw[hb]at h;cases h
  |true=>
   rw[hb]at h;simp only[cond_true,Option.some.injEq,Prod.mk.injEq]at h;obtain⟨rfl,rfl,rfl⟩:=h
   have:=Nat.le_of_ble_eq_true hb
   refine⟨?_,by omega⟩
   show k.wrap ((n1:Int)+(n2:Int))=_
   rw[←Int.natCast_add];exact wu (by omega)
 ·cases hb:Nat.ble (b1*b2) (kmax k)with
  |false=>rw[hb]at h;cases h
  |true=>
   rw[hb]at h;simp only[cond_true,Option.some.injEq,Prod.mk.injEq]at h;obtain⟨rfl,rfl,rfl⟩:=h
   have h3:=Nat.le_of_ble_eq_true hb
   have h4:=Nat.mul_le_mul h1 h2
   refine⟨?_,h4⟩
   show k.wrap ((n1:Int)*(n2:Int))=_
   rw[←Int.natCast_mul];exact wu (by omega)
 ·cases hb:Nat.ble b1 (kmax k)with
  |false=>rw[hb]at h;cases h
  |true=>
   rw[hb]at h;simp only[cond_true,Option.some.injEq,Prod.mk.injEq]at h;obtain⟨rfl,rfl,rfl⟩:=h
   have h3:=Nat.le_of_ble_eq_true hb
   have h4:=FJ hvc
   have h5:=Nat.div_le_self n1 n2
   refine⟨⟨by omega,?_⟩,by omega⟩
   rw[show(n1:Int).tdiv (n2:Int)=((n1/n2:Nat):Int)from(Int.ofNat_tdiv n1 n2).symm]
   exact wu (by omega)
 ·cases hb:Nat.ble b1 (kmax k)with
  |false=>rw[hb]at h;cases h
  |true=>
   rw[hb]at h;simp only[cond_true,Option.some.injEq,Prod.mk.injEq]at h;obtain⟨rfl,rfl,rfl⟩:=h
   have h4:=FJ hvc
   have h5:=Nat.mod_lt n1 h4
   refine⟨⟨by omega,remN n1 n2⟩,?_⟩
   cases lit
   ·show n1%n2≤b2;omega
   ·show n1%n2≤n2-1;omega
 ·cases hb:lit&&Nat.ble n2 (k.bits)&&Nat.ble (b1*2^n2) (kmax k)with
  |false=>rw[hb]at h;cases h
  |true=>
   rw[hb]at h;simp only[cond_true,Option.some.injEq,Prod.mk.injEq]at h;obtain⟨rfl,rfl,rfl⟩:=h
   simp only[Bool.and_eq_true]at hb
   have h3:=Nat.le_of_ble_eq_true hb.1.2
   have h4:=Nat.le_of_ble_eq_true hb.2
   have h5:n1*2^n2≤b1*2^n2:=Nat.mul_le_mul_right _ h1
   refine⟨⟨by omega,?_⟩,h5⟩
   rw[show((n2:Int).toNat)=n2 from Int.toNat_natCast _,Nat.min_eq_left h3]
   have:((n1:Int)*2^n2)=((n1*2^n2:Nat):Int):=by rw[Int.natCast_mul,Int.natCast_pow];rfl
   rw[this];exact wu (by omega)
 ·cases hb:lit&&Nat.ble n2 (k.bits)with
  |false=>rw[hb]at h;cases h
  |true=>
   rw[hb]at h;simp only[cond_true,Option.some.injEq,Prod.mk.injEq]at h;obtain⟨rfl,rfl,rfl⟩:=h
   simp only[Bool.and_eq_true]at hb
   exact⟨⟨by omega,shrN n1 n2 (Nat.le_of_ble_eq_true hb.2)⟩,Nat.div_le_div_right h1⟩
 ·cases h
def I0(op:BinOp)(k:IntKind)(b1:Nat)(z1:Int)(b2:Nat)(z2:Int)(lit:Bool):Option (Nat×Int×List Prop):=
 match op with
 | .add=>bif k.signed&&Nat.ble (b1+b2) (kmax k)then some (b1+b2,z1+z2,[])else none
 | .sub=>bif k.signed&&Nat.ble (b1+b2) (kmax k)then some (b1+b2,z1-z2,[])else none
 | .mul=>bif k.signed&&Nat.ble (b1*b2) (kmax k)then some (b1*b2,z1*z2,[])else none
 | .quo=>bif k.signed&&Nat.ble b1 (kmax k)then some (b1,z1.tdiv z2,[z2≠0])else none
 | .rem=>bif k.signed then some (b2,z1.tmod z2,[z2≠0])else none
 |_=>none
theorem Ft{op:BinOp}{k:IntKind}{b1 b2 b:Nat}{z1 z2 z:Int}{lit:Bool}{vc:List Prop}(h:I0 op k b1 z1 b2 z2 lit=some (b,z,vc))(h1:z1.natAbs≤b1)(h2:z2.natAbs≤b2)(hvc: ∀p∈vc,p):
  qw op k z1 z2 z∧z.natAbs≤b:=by
 unfold I0 at h
 split at h
 ·cases hb:k.signed&&Nat.ble (b1+b2) (kmax k)with
  |false=>rw[hb]at h;cases h
  |true=>
   rw[hb]at h;simp only[cond_true,Option.some.injEq,Prod.mk.injEq]at h;obtain⟨rfl,rfl,rfl⟩:=h
   simp only[Bool.and_eq_true]at hb
   have h3:=Nat.le_of_ble_eq_true hb.2
   have h4:(z1+z2).natAbs≤b1+b2:=by omega
   exact⟨zN hb.1 (by omega),h4⟩
 ·cases hb:k.signed&&Nat.ble (b1+b2) (kmax k)with
  |false=>rw[hb]at h;cases h
  |true=>
   rw[hb]at h;simp only[cond_true,Option.some.injEq,Prod.mk.injEq]at h;obtain⟨rfl,rfl,rfl⟩:=h
   simp only[Bool.and_eq_true]at hb
   have h3:=Nat.le_of_ble_eq_true hb.2
   have h4:(z1-z2).natAbs≤b1+b2:=by omega
   exact⟨zN hb.1 (by omega),h4⟩
 ·cases hb:k.signed&&Nat.ble (b1*b2) (kmax k)with
  |false=>rw[hb]at h;cases h
  |true=>
   rw[hb]at h;simp only[cond_true,Option.some.injEq,Prod.mk.injEq]at h;obtain⟨rfl,rfl,rfl⟩:=h
   simp only[Bool.and_eq_true]at hb
   have h3:=Nat.le_of_ble_eq_true hb.2
   have h4:(z1*z2).natAbs≤b1*b2:=by rw[Int.natAbs_mul];exact Nat.mul_le_mul h1 h2
   exact⟨zN hb.1 (by omega),h4⟩
 ·cases hb:k.signed&&Nat.ble b1 (kmax k)with
  |false=>rw[hb]at h;cases h
  |true=>
   rw[hb]at h;simp only[cond_true,Option.some.injEq,Prod.mk.injEq]at h;obtain⟨rfl,rfl,rfl⟩:=h
   simp only[Bool.and_eq_true]at hb
   have h3:=Nat.le_of_ble_eq_true hb.2
   have h4:(z1.tdiv z2).natAbs≤b1:=by rw[Int.natAbs_tdiv];exact Nat.le_trans (Nat.div_le_self _ _) h1
   exact⟨⟨hvc _ List.mem_cons_self,zN hb.1 (by omega)⟩,h4⟩
 ·cases hb:k.signed with
  |false=>rw[hb]at h;cases h
  |true=>
   rw[hb]at h;simp only[cond_true,Option.some.injEq,Prod.mk.injEq]at h;obtain⟨rfl,rfl,rfl⟩:=h
   have hz:z2≠0:=hvc _ List.mem_cons_self
   refine⟨⟨hz,rfl⟩,?_⟩
   rw[Int.natAbs_tmod]
   exact Nat.le_trans (Nat.le_of_lt (Nat.mod_lt _ (Int.natAbs_pos.2 hz))) h2
 ·cases h
def vY:BinOp→Bool
 | .eql| .neq| .lss| .leq| .gtr| .geq=>true
 |_=>false
def Al(op:BinOp)(a b:Int):Bool:=
 match op with
 | .eql=>decide (a=b)
 | .neq=>!decide (a=b)
 | .lss=>decide (a<b)
 | .leq=>decide (a≤b)
 | .gtr=>decide (b<a)
 | .geq=>decide (b≤a)
 |_=>false
theorem CM{op:BinOp}{t ty yt:TypeId}{x y:Operand}{k:IntKind}{a b:Int}(h:vY op=true):OpOk P (.binOp op t x y yt) ty [(x,vInt k a),(y,vInt k b)] [] (jD (Al op a b)) []:=by
 cases op<;>simp only[vY,Bool.false_eq_true]at h
 case eql=>exact Zg (by simp[Al,BEq.beq])
 case neq=>exact Zp (by simp[Al,bne,BEq.beq])
 case lss=>exact Zk rfl
 case leq=>exact Zj rfl
 case gtr=>exact Zi rfl
 case geq=>exact Zh rfl
def Ie(op:BinOp)(a b:Nat):WV:=
 match op with
 | .eql=>vP (a=b) inferInstance
 | .neq=>vP (a≠b) inferInstance
 | .lss=>vP (a<b) inferInstance
 | .leq=>vP (a≤b) inferInstance
 | .gtr=>vP (b<a) inferInstance
 |_=>vP (b≤a) inferInstance
def If(op:BinOp)(a b:Int):WV:=
 match op with
 | .eql=>vP (a=b) inferInstance
 | .neq=>vP (a≠b) inferInstance
 | .lss=>vP (a<b) inferInstance
 | .leq=>vP (a≤b) inferInstance
 | .gtr=>vP (b<a) inferInstance
 |_=>vP (b≤a) inferInstance
theorem Ts{op:BinOp}{t ty yt:TypeId}{x y:Operand}{k:IntKind}{a b:Int}(h:vY op=true):OpOk P (.binOp op t x y yt) ty [(x,vInt k a),(y,vInt k b)] [] (If op a b).exp []∧(If op a b).ok:=by
 have hc:=CM (P:=P) (t:=t) (ty:=ty) (yt:=yt) (x:=x) (y:=y) (k:=k) (a:=a) (b:=b) h
 cases op<;>simp only[vY,Bool.false_eq_true]at h<;>refine⟨?_,trivial,rfl⟩<;>simp only[If,Pc]<;>simp only[Al]at hc
 all_goals first|exact hc|(rw[show decide (a≠b)=!decide (a=b) by simp];exact hc)
theorem RX{op:BinOp}{t ty yt:TypeId}{x y:Operand}{k:IntKind}{a b:Nat}(h:vY op=true):OpOk P (.binOp op t x y yt) ty [(x,vInt k (a:Int)),(y,vInt k (b:Int))] [] (Ie op a b).exp []∧(Ie op a b).ok:=by
 have hc:=CM (P:=P) (t:=t) (ty:=ty) (yt:=yt) (x:=x) (y:=y) (k:=k) (a:=(a:Int)) (b:=(b:Int)) h
 cases op<;>simp only[vY,Bool.false_eq_true]at h<;>refine⟨?_,trivial,rfl⟩<;>simp only[Ie,Pc]<;>simp only[Al]at hc
 ·rw[show decide (a=b)=decide ((a:Int)=(b:Int)) by rw[Bool.eq_iff_iff];simp;omega];exact hc
 ·rw[show decide (a≠b)=!decide ((a:Int)=(b:Int)) by rw[Bool.eq_iff_iff];simp;omega];exact hc
 ·rw[show decide (a<b)=decide ((a:Int)<(b:Int)) by rw[Bool.eq_iff_iff];simp];exact hc
 ·rw[show decide (a≤b)=decide ((a:Int)≤(b:Int)) by rw[Bool.eq_iff_iff];simp];exact hc
 ·rw[show decide (b<a)=decide ((b:Int)<(a:Int)) by rw[Bool.eq_iff_iff];simp];exact hc
 ·rw[show decide (b≤a)=decide ((b:Int)≤(a:Int)) by rw[Bool.eq_iff_iff];simp];exact hc
inductive IH where
 |no
 |sub
 |n (e b:Nat)
 |z (e:Int) (b:Nat)
def toB:WA→Option Bool
 | .pp q i=>some (@decide q i)
 | .dt .bool _ b=>some b
 | .vl (.bool b)=>some b
 |_=>none
theorem ET{a:WA}{b:Bool}(h:toB a=some b):a.exp=[.val (.bool b)]:=by
 unfold toB at h
 split at h
 ·simp only[Option.some.injEq]at h;subst h;rfl
 ·simp only[Option.some.injEq]at h;subst h;rfl
 ·simp only[Option.some.injEq]at h;subst h;rfl
 ·cases h
def DN(P:Program)(t:TypeId):Bool:=match P.underlying t with|some .bool=>true|_=>false
theorem IX{t:TypeId}(h:DN P t=true):P.underlying t=some .bool:=by
 unfold DN at h
 split at h
 ·assumption
 ·cases h
def MP (op : BinOp) (a b : WA) : HR :=
 match litZ a, litZ b with
 | some (k, z1), some (k', z2) => bif kbeq k k' || jH op then
   (bif vY op then .ok [] (.c (.one (.vl (.bool (Al op z1 z2))))) [] [] else match Ma op k z1 z2 with | some e => .ok [] (.c (.one (.kn k e))) [] [] | none => .bad) else .bad
 | _, _ =>
  match asN a, asN b with
  | some (k, b1, n1), some (k', b2, n2) => bif kbeq k k' || jH op then
    (bif vY op then .ok [] (Ie op n1 n2) [] [] else match Me op k b1 n1 b2 n2 (AK b) with
     | some (bb, n, vc) => .ok vc (vN k bb n) [] []
     | none => match I0 op k b1 n1 b2 n2 (AK b) with
      | some (bb, z, vc) => .ok vc (vZ k bb z) [] []
      | none => .bad) else .bad
  | _, _ => match asZ a, asZ b with
   | some (k, b1, z1), some (k', b2, z2) => bif kbeq k k' then
    (bif vY op then .ok [] (If op z1 z2) [] [] else match I0 op k b1 z1 b2 z2 (AK b) with
      | some (bb, z, vc) => .ok vc (vZ k bb z) [] []
      | none => .bad) else .bad
   | _, _ => .bad
def MQ(op:BinOp)(h:IH)(a b:WA):HR:=
 match h with
 | .no=>MP op a b
 | .sub=>match op,asN a,asN b with
  | .sub,some (k,b1,n1),some (k',b2,n2)=>bif kbeq k k'&&Nat.ble b1 (kmax k)then .ok [n2≤n1] (vN k b1 (n1-n2)) [] []else .bad
  |_,_,_=> .bad
 | .n e bd=>match asZ a,asZ b with
  |some (k,_,z1),some (k',_,z2)=>bif kbeq k k'||jH op then .ok [qw op k z1 z2 e,e≤bd] (vN k bd e) [] []else .bad
  |_,_=> .bad
 | .z e bd=>match asZ a,asZ b with
  |some (k,_,z1),some (k',_,z2)=>bif kbeq k k'||jH op then .ok [qw op k z1 z2 e,e.natAbs≤bd] (vZ k bd e) [] []else .bad
  |_,_=> .bad
def nilQ:WA→Option Prop
 | .dt (.sl _) _ l=>some (l=[])
 |_=>none
theorem Ty.w_pos': ∀t:Ty,0<t.w
 | .nat _| .int _| .bool| .str| .mag| .sl _| .fn _| .pt _| .cl _ _=>Nat.succ_pos 0
 | .rat=>Nat.succ_pos 2
 | .pr a b=>Nat.lt_of_lt_of_le (Ty.w_pos' a) (Nat.le_add_right _ _)
 | .st t=>Ty.w_pos' t
theorem U0{t yt:TypeId}{x y:Operand}{A:Pred}{C:Prop}(ht:isSl P t=true)(hA: ∀H v,A.p H v→ ∃p n c,v= .slice p n c∧(p.isNone=true→C)):
  OpOk P (.binOp .eql t x y yt) ty [(x,.c (.one (.abs A))),(y,.c (.one (.val (.slice none 0 0))))] [] (.c (.one (.abs (bqP C)))) []:=
 qo fun a w H β hins _ _=>by
  obtain⟨p,n,c,hx,hp⟩:=hA H _ (hins _ List.mem_cons_self)
  have hy:=(hins (y,.c (.one (.val (.slice none 0 0)))) (by simp)).1
  simp only at hx hy
  refine⟨.bool p.isNone,⟨_,rfl,hp⟩,fun _ _ _ _=>?_⟩
  unfold isSl at ht
  split at ht
  ·rename_i e he
   have heq:(Op.equal t (.slice p n c) (.slice none 0 0)).run P w= .ok p.isNone w:=FW he p n c w 9999
   simp only[execOp,hx,hy]
   have hb:(do eqGuard .eql t x y (.slice p n c) (.slice none 0 0);binOp .eql t (.slice p n c) (.slice none 0 0):Sem Value).run P w= .ok (.bool p.isNone) w:=by
    show(do eqGuard .eql t x y (.slice p n c) (.slice none 0 0);pure (Value.bool (←Op.equal t (.slice p n c) (.slice none 0 0))):Sem Value).run P w=_
    simp[eqGuard,heq]
   simp only[Sem.run_bind]at hb⊢
   rw[hb];rfl
  ·cases ht
theorem Oh{a:WA}{C:Prop}(h:nilQ a=some C): ∃A,a.exp=[.abs A]∧ ∀H v,A.p H v→ ∃p n c,v= .slice p n c∧(p.isNone=true→C):=by
 unfold nilQ at h
 split at h
 ·rename_i t b l
  simp only[Option.some.injEq]at h
  subst h
  refine⟨_,rfl,?_⟩
  rintro H v ⟨p,c,rfl,_,hh⟩
  refine⟨p,_,c,rfl,fun hn=>?_⟩
  rcases hh with hh|⟨b,off,arr,h1,_⟩
  ·have h1:=congrArg List.length hh
   rw[show(List.flatMap (cellsC t) l)=allC t l from rfl,qZ]at h1
   have h2:=Ty.w_pos' t
   have h3:l.length=0:=by
    rcases Nat.mul_eq_zero.1 h1 with h|h
    ·exact h
    ·omega
   exact List.length_eq_zero_iff.1 h3
  ·subst h1;cases hn
 ·cases h
def wBin(P:Program)(op:BinOp)(t:TypeId)(h:IH):WV→WV→HR
 | .c (.one a),.c (.one b)=>match toB a,toB b with
  |some p,some q=>bif DN P t then(match op with
    | .eql=> .ok [] (vP (p=q) inferInstance) [] []
    | .neq=> .ok [] (vP (p≠q) inferInstance) [] []
    |_=> .bad)else .bad
  |_,_=>match op,nilQ a,jB b with
   | .eql,some C,true=>bif isSl P t then .ok [] (.c (.one (.bq C))) [] []else .bad
   |_,_,_=>MQ op h a b
 |_,_=> .bad
theorem zz{op:BinOp}{t yt:TypeId}{x y:Operand}{a b:WA}{k k':IntKind}{z1 z2:Int}{R:WV}(h1:a.exp=[.val (.int k z1)])(h2:b.exp=[.val (.int k' z2)])(h:OpOk P (.binOp op t x y yt) ty [(x,vInt k z1),(y,vInt k' z2)] [] R.exp []):
  OpOk P (.binOp op t x y yt) ty (List.zip [x,y] ([WV.c (.one a),.c (.one b)].map WV.exp)) (kinE []) R.exp (LwE []):=by
 show OpOk P _ _ [(x,(WV.c (.one a)).exp),(y,(WV.c (.one b)).exp)] [] _ []
 rw[qD h1,qD h2];exact h
theorem GE{op:Op}{x y:Operand}{a b:WA}{k k':IntKind}{z1 z2:Int}{R:WV}(h1:a.exp=[.val (.int k z1)])(h2:b.exp=[.val (.int k' z2)])(h:OpOk P op ty [(x,vInt k z1),(y,vInt k' z2)] [] R.exp []):
  OpOk P op ty (List.zip [x,y] ([WV.c (.one a),.c (.one b)].map WV.exp)) (kinE []) R.exp (LwE []):=by
 show OpOk P _ _ [(x,(WV.c (.one a)).exp),(y,(WV.c (.one b)).exp)] [] _ []
 rw[qD h1,qD h2];exact h
theorem Yj{op:BinOp}{t yt:TypeId}{x y:Operand}{a b:WA}:HOk P (.binOp op t x y yt) ty [x,y] [.c (.one a),.c (.one b)] bl (MP op a b):=by
 unfold MP
 split
 ·rename_i k z1 k' z2 h1 h2
  have e1:=AM h1
  have e2:=AM h2
  cases hk:kbeq k k'||jH op with
  |false=>exact trivial
  |true=>
   simp only[cond_true]
   cases hc:vY op with
   |true=>
    intro hv _ _ kin hkk _
    rw[qf hkk]
    have:jH op=false:=by cases op<;>simp_all [vY,jH]
    rw[this,Bool.or_false]at hk
    cases qN hk
    refine⟨zz e1 e2 (R:= .c (.one (.vl (.bool (Al op z1 z2))))) (CM hc),⟨rfl,rfl⟩,qh⟩
   |false=>
    simp only[cond_false]
    split
    ·rename_i e he
     intro hv _ _ kin hkk _
     rw[qf hkk]
     exact⟨zz e1 e2 (R:= .c (.one (.kn k e))) (we (Mb he) hk),⟨trivial,rfl⟩,qh⟩
    ·exact trivial
 ·split
  ·rename_i k b1 n1 k' b2 n2 h1 h2
   obtain⟨e1,o1⟩:=qT h1
   obtain⟨e2,o2⟩:=qT h2
   cases hk:kbeq k k'||jH op with
   |false=>exact trivial
   |true=>
    simp only[cond_true]
    cases hc:vY op with
    |true=>
     intro hv _ _ kin hkk _
     rw[qf hkk]
     have:jH op=false:=by cases op<;>simp_all [vY,jH]
     rw[this,Bool.or_false]at hk
     cases qN hk
     have:=RX (P:=P) (t:=t) (ty:=ty) (yt:=yt) (x:=x) (y:=y) (k:=k) (a:=n1) (b:=n2) hc
     exact⟨zz e1 e2 this.1,this.2,qh⟩
    |false=>
     simp only[cond_false]
     split
     ·rename_i bb n vc he
      intro hv _ hvc kin hkk _
      rw[qf hkk]
      obtain⟨q1,q2⟩:=Mf he (o1 (hv _ List.mem_cons_self).1) (o2 (hv (.c (.one b)) (by simp)).1) hvc
      exact⟨zz e1 e2 (R:=vN k bb n) (we q1 hk),⟨q2,rfl⟩,qh⟩
     ·split
      ·rename_i bb n vc he
       intro hv _ hvc kin hkk _
       rw[qf hkk]
       obtain⟨q1,q2⟩:=Ft he (by have:=o1 (hv _ List.mem_cons_self).1;simpa using this) (by have:=o2 (hv (.c (.one b)) (by simp)).1;simpa using this) hvc
       exact⟨zz e1 e2 (R:=vZ k bb n) (we q1 hk),⟨q2,rfl⟩,qh⟩
      ·exact trivial
  ·split
   ·rename_i k b1 z1 k' b2 z2 h1 h2
    obtain⟨e1,o1⟩:=qH h1
    obtain⟨e2,o2⟩:=qH h2
    cases hk:kbeq k k' with
    |false=>exact trivial
    |true=>
     cases qN hk
     simp only[cond_true]
     cases hc:vY op with
     |true=>
      intro hv _ _ kin hkk _
      rw[qf hkk]
      have:=Ts (P:=P) (t:=t) (ty:=ty) (yt:=yt) (x:=x) (y:=y) (k:=k) (a:=z1) (b:=z2) hc
      exact⟨zz e1 e2 this.1,this.2,qh⟩
     |false=>
      simp only[cond_false]
      split
      ·rename_i bb n vc he
       intro hv _ hvc kin hkk _
       rw[qf hkk]
       obtain⟨q1,q2⟩:=Ft he (o1 (hv _ List.mem_cons_self).1) (o2 (hv (.c (.one b)) (by simp)).1) hvc
       exact⟨zz e1 e2 (R:=vZ k bb n) (we q1 (by rw[hk];rfl)),⟨q2,rfl⟩,qh⟩
      ·exact trivial
   ·exact trivial
theorem Yk{op:BinOp}{t yt:TypeId}{x y:Operand}{h:IH}{a b:WA}:HOk P (.binOp op t x y yt) ty [x,y] [.c (.one a),.c (.one b)] bl (MQ op h a b):=by
 unfold MQ
 split
 ·exact Yj
 ·split
  ·rename_i k b1 n1 k' b2 n2 h1 h2
   obtain⟨e1,o1⟩:=qT h1
   obtain⟨e2,o2⟩:=qT h2
   cases hk:kbeq k k'&&Nat.ble b1 (kmax k)with
   |false=>exact trivial
   |true=>
    simp only[Bool.and_eq_true]at hk
    cases qN hk.1
    intro hv _ hvc kin hkk _
    rw[qf hkk]
    have h3:n2≤n1:=hvc _ List.mem_cons_self
    have h4:=o1 (hv _ List.mem_cons_self).1
    have h5:=Nat.le_of_ble_eq_true hk.2
    refine⟨zz e1 e2 (R:=vN k b1 (n1-n2)) (Ox ?_),⟨show n1-n2≤b1 by omega,rfl⟩,qh⟩
    rw[←Int.natCast_sub h3];exact wu (by omega)
  ·exact trivial
 ·split
  ·rename_i k b1 z1 k' b2 z2 h1 h2
   obtain⟨e1,o1⟩:=qH h1
   obtain⟨e2,o2⟩:=qH h2
   cases hk:kbeq k k'||jH op with
   |false=>exact trivial
   |true=>
    intro hv _ hvc kin hkk _
    rw[qf hkk]
    exact⟨zz e1 e2 (R:=vN k _ _) (we (hvc _ List.mem_cons_self) hk),⟨hvc (_≤_) (List.mem_cons_of_mem _ List.mem_cons_self),rfl⟩,qh⟩
  ·exact trivial
 ·split
  ·rename_i k b1 z1 k' b2 z2 h1 h2
   obtain⟨e1,o1⟩:=qH h1
   obtain⟨e2,o2⟩:=qH h2
   cases hk:kbeq k k'||jH op with
   |false=>exact trivial
   |true=>
    intro hv _ hvc kin hkk _
    rw[qf hkk]
    exact⟨zz e1 e2 (R:=vZ k _ _) (we (hvc _ List.mem_cons_self) hk),⟨hvc (_≤_) (List.mem_cons_of_mem _ List.mem_cons_self),rfl⟩,qh⟩
  ·exact trivial
theorem C3{a:WA}{b:Bool}(h:a.exp=[.val (.bool b)]):(WV.c (.one a)).exp=jD b:=by
 simp only[WV.exp,WC.exp,h,List.headD_cons]
theorem q1w{op:BinOp}{t yt:TypeId}{x y:Operand}{h:IH}{p v:WV}:HOk P (.binOp op t x y yt) ty [x,y] [p,v] bl (wBin P op t h p v):=by
 unfold wBin
 split
 ·rename_i a b
  split
  ·rename_i p q h1 h2
   have e1:=ET h1
   have e2:=ET h2
   cases ht:DN P t with
   |false=>exact trivial
   |true=>
    have ht:=IX ht
    simp only[cond_true]
    split
    ·intro hv _ _ kin hkk _
     rw[qf hkk]
     refine⟨?_,⟨trivial,rfl⟩,qh⟩
     show OpOk P _ _ [(x,(WV.c (.one a)).exp),(y,(WV.c (.one b)).exp)] [] (jD _) []
     rw[C3 e1,C3 e2]
     exact Zf ht (by rw[Bool.eq_iff_iff];simp)
    ·intro hv _ _ kin hkk _
     rw[qf hkk]
     refine⟨?_,⟨trivial,rfl⟩,qh⟩
     show OpOk P _ _ [(x,(WV.c (.one a)).exp),(y,(WV.c (.one b)).exp)] [] (jD _) []
     rw[C3 e1,C3 e2]
     exact Zo ht (by rw[Bool.eq_iff_iff];simp)
    ·exact trivial
  ·split
   ·rename_i C hq hn
    have hn:=vk hn
    subst hn
    obtain⟨A,hA,hC⟩:=Oh hq
    cases ht:isSl P t with
    |false=>exact trivial
    |true=>
     intro hv _ _ kin hkk _
     rw[qf hkk]
     refine⟨?_,⟨trivial,rfl⟩,qh⟩
     have e1:(WV.c (.one a)).exp= .c (.one (.abs A)):=by
      show AV.c (.one (a.exp.headD _))=_
      rw[hA];rfl
     show OpOk P _ _ [(x,(WV.c (.one a)).exp),(y,.c (.one (.val (.slice none 0 0))))] [] _ []
     rw[e1]
     exact U0 ht hC
   ·exact Yk
 ·exact trivial
def wUn(op:UnOp):WV→HR
 | .c (.one a)=>match op with
  | .not=>match a with
   | .pp q i=> .ok [] (vP (¬q) (@instDecidableNot q i)) [] []
   | .vl (.bool b)=> .ok [] (.c (.one (.vl (.bool (!b))))) [] []
   | .dt .bool _ b=> .ok [] (.c (.one (.dt .bool .u (!b)))) [] []
   |_=> .bad
  | .neg=>match litZ a with
   |some (k,z)=> .ok [] (.c (.one (.kn k (k.wrap (0-z))))) [] []
   |none=>match asZ a with
    |some (k,b,z)=>bif k.signed&&Nat.ble b (kmax k)then .ok [] (vZ k b (-z)) [] []else .bad
    |none=> .bad
  |_=> .bad
 |_=> .bad
theorem h_un{op:UnOp}{t:TypeId}{x:Operand}{v:WV}:HOk P (.unOp op t x) ty [x] [v] bl (wUn op v):=by
 unfold wUn
 split
 ·rename_i a
  split
  ·split
   ·rename_i q i
    intro hv _ _ kin hkk _
    rw[qf hkk]
    refine⟨?_,⟨trivial,rfl⟩,qh⟩
    exact Jj (by rw[Bool.eq_iff_iff];simp)
   ·intro hv _ _ kin hkk _
    rw[qf hkk]
    exact⟨Jj rfl,⟨rfl,rfl⟩,qh⟩
   ·intro hv _ _ kin hkk _
    rw[qf hkk]
    exact⟨Jj rfl,⟨trivial,rfl⟩,qh⟩
   ·exact trivial
  ·split
   ·rename_i k z h1
    intro hv _ _ kin hkk _
    rw[qf hkk]
    refine⟨?_,⟨trivial,rfl⟩,qh⟩
    show OpOk P _ _ [(x,(WV.c (.one a)).exp)] [] (vInt k _) []
    rw[qD (AM h1)]
    exact Ov rfl
   ·split
    ·rename_i k b z h1
     obtain⟨e1,o1⟩:=qH h1
     cases hk:k.signed&&Nat.ble b (kmax k)with
     |false=>exact trivial
     |true=>
      simp only[Bool.and_eq_true]at hk
      intro hv _ _ kin hkk _
      rw[qf hkk]
      have h4:=o1 (hv _ List.mem_cons_self).1
      have h5:=Nat.le_of_ble_eq_true hk.2
      have h6:(-z).natAbs≤b:=by omega
      refine⟨?_,⟨h6,rfl⟩,qh⟩
      show OpOk P _ _ [(x,(WV.c (.one a)).exp)] [] (vInt k _) []
      rw[qD e1]
      exact Ov (by rw[show(0:Int) -z= -z by omega];exact zN hk.1 (by omega))
    ·exact trivial
  ·exact trivial
 ·exact trivial
def MS(P:Program)(src dst:TypeId)(h:IH):WV→HR
 | .c (.one a)=>match intK P dst with
  |some k=>bif (P.underlying src).isSome then(match h with
   | .n e bd=>match asZ a with
    |some (_,_,z)=> .ok [k.wrap z=(e:Int),e≤bd] (vN k bd e) [] []
    |none=> .bad
   | .z e bd=>match asZ a with
    |some (_,_,z)=> .ok [k.wrap z=e,e.natAbs≤bd] (vZ k bd e) [] []
    |none=> .bad
   |_=>match litZ a with
    |some (_,z)=> .ok [] (.c (.one (.kn k (k.wrap z)))) [] []
    |none=>match asN a with
     |some (_,b,n)=>bif Nat.ble b (kmax k)then .ok [] (vN k b n) [] []else bif k.signed then .bad else .ok [] (vN k (kmax k) (n%(kmax k+1))) [] []
     |none=>match asZ a with
      |some (_,b,z)=>bif k.signed&&Nat.ble b (kmax k)then .ok [] (vZ k b z) [] []else .bad
      |none=> .bad)else .bad
  |none=> .bad
 |_=> .bad
theorem NN{t:TypeId}{k:IntKind}(h:intK P t=some k):P.underlying t=some (.int k):=by
 unfold intK at h
 split at h
 ·rename_i h1;simp at h;subst h;exact h1
 ·cases h
theorem RZ{k:IntKind}(hs:k.signed=false)(n:Nat):k.wrap (n:Int)=((n%(kmax k+1):Nat):Int):=by
 cases k<;>simp[kmax,IntKind.wrap,IntKind.bits,IntKind.signed]at hs⊢
theorem wh{src dst:TypeId}{x:Operand}{a:WA}{k k':IntKind}{z r:Int}{R:WV}(hd:intK P dst=some k)(hs:(P.underlying src).isSome=true)(ha:a.exp=[.val (.int k' z)])(hr:k.wrap z=r)(hR:R.exp=vInt k r):
  OpOk P (.convert src dst x) ty (List.zip [x] ([WV.c (.one a)].map WV.exp)) (kinE []) R.exp (LwE []):=by
 obtain⟨d,hd'⟩:=Option.isSome_iff_exists.1 hs
 show OpOk P _ _ [(x,(WV.c (.one a)).exp)] [] _ []
 rw[qD ha,hR]
 exact Vo hd' (NN hd) hr
theorem Ym{src dst:TypeId}{h:IH}{x:Operand}{v:WV}:HOk P (.convert src dst x) ty [x] [v] bl (MS P src dst h v):=by
 unfold MS
 split
 ·rename_i a
  split
  ·rename_i k hd
   cases hs:(P.underlying src).isSome with
   |false=>exact trivial
   |true=>
    simp only[cond_true]
    split
    ·split
     ·rename_i k' b z hz
      intro hv _ hvc kin hkk _
      rw[qf hkk]
      exact⟨wh hd hs (qH hz).1 (hvc _ List.mem_cons_self) rfl,⟨hvc (_≤_) (List.mem_cons_of_mem _ List.mem_cons_self),rfl⟩,qh⟩
     ·exact trivial
    ·split
     ·rename_i k' b z hz
      intro hv _ hvc kin hkk _
      rw[qf hkk]
      exact⟨wh hd hs (qH hz).1 (hvc _ List.mem_cons_self) rfl,⟨hvc (_≤_) (List.mem_cons_of_mem _ List.mem_cons_self),rfl⟩,qh⟩
     ·exact trivial
    ·split
     ·rename_i k' z hz
      intro hv _ hvc kin hkk _
      rw[qf hkk]
      exact⟨wh hd hs (AM hz) rfl rfl,⟨trivial,rfl⟩,qh⟩
     ·split
      ·rename_i k' b n hn
       obtain⟨e1,o1⟩:=qT hn
       cases hb:Nat.ble b (kmax k)with
       |true=>
        intro hv _ hvc kin hkk _
        rw[qf hkk]
        have h1:=o1 (hv _ List.mem_cons_self).1
        exact⟨wh hd hs e1 (wu (Nat.le_trans h1 (Nat.le_of_ble_eq_true hb))) (R:=vN k b n) rfl,⟨h1,rfl⟩,qh⟩
       |false=>
        simp only[cond_false]
        cases hsg:k.signed with
        |true=>exact trivial
        |false=>
         intro hv _ hvc kin hkk _
         rw[qf hkk]
         exact⟨wh hd hs e1 (RZ hsg n) (R:=vN k _ _) rfl,⟨Nat.le_of_lt_succ (Nat.mod_lt _ (Nat.succ_pos _)),rfl⟩,qh⟩
      ·split
       ·rename_i k' b z hz
        obtain⟨e1,o1⟩:=qH hz
        cases hb:k.signed&&Nat.ble b (kmax k)with
        |false=>exact trivial
        |true=>
         simp only[Bool.and_eq_true]at hb
         intro hv _ hvc kin hkk _
         rw[qf hkk]
         have h1:=o1 (hv _ List.mem_cons_self).1
         exact⟨wh hd hs e1 (zN hb.1 (Nat.le_trans h1 (Nat.le_of_ble_eq_true hb.2))) (R:=vZ k b z) rfl,⟨h1,rfl⟩,qh⟩
       ·exact trivial
  ·exact trivial
 ·exact trivial
def wLen(P:Program)(t:TypeId):WV→HR
 | .c (.one (.dt (.sl t') b (l:List t'.den)))=>bif isSl P t then .ok [] (vN .i64 b.len l.length) [] []else .bad
 | .c (.one (.dt .mag b (x:Nat)))=>bif isSl P t then .ok [] (vN .i64 (b.nb/32+1) (limbs x).length) [] []else .bad
 | .c (.one (.nn t' b (l:List t'.den)))=>bif isSl P t then .ok [] (vN .i64 b.len l.length) [] []else .bad
 | .c (.one (.ls k lo n cap w nb))=>bif isSl P t then .ok [] (vN .i64 nb n) [] []else .bad
 | .c (.one (.gs k n w nb))=>bif isSl P t then .ok [] (vN .i64 nb n) [] []else .bad
 | .c (.one (.so k lo n w nb))=>bif isSl P t then .ok [] (vN .i64 nb n) [] []else .bad
 | .c (.one a)=>bif isSl P t&&jB a then .ok [] (.c (.one (.kn .i64 0))) [] []else .bad
 |_=> .bad
theorem BQ{t:TypeId}{x:Operand}{v R:AV}(h:isSl P t=true)(hv:(∃k off n c,v= .c (.one (.sl k off n c))∧R=vInt .i64 n)∨(∃k n,v= .c (.one (.gs k n))∧R=vInt .i64 n)∨(v= .c (.one (.val (.slice none 0 0)))∧R=vInt .i64 0)):
  OpOk P (.call {callee:= .builtin .len,args:= #[x],argTypes:= #[t]}) ty [(x,v)] [] R []:=by
 refine Kd ?_
 unfold isSl at h
 unfold LJ
 rcases hv with⟨k,off,n,c,rfl,rfl⟩|⟨k,n,rfl,rfl⟩|⟨rfl,rfl⟩
 all_goals
  simp only
  cases hu:P.underlying t with
  |none=>rw[hu]at h;cases h
  |some d=>cases d<;>rw[hu]at h<;>first|rfl|cases h
theorem q1y{t:TypeId}{x:Operand}{v:WV}:HOk P (.call {callee:= .builtin .len,args:= #[x],argTypes:= #[t]}) ty [x] [v] bl (wLen P t v):=by
 unfold wLen
 split
 ·rename_i t' b l
  cases hs:isSl P t with
  |false=>exact trivial
  |true=>
   intro hv _ hvc kin hkk _
   rw[qf hkk]
   exact⟨gLen hs (KO _ _),⟨(Bnd.sl (hv _ List.mem_cons_self).1).1,rfl⟩,qh⟩
 ·rename_i b z
  cases hs:isSl P t with
  |false=>exact trivial
  |true=>
   intro hv _ hvc kin hkk _
   rw[qf hkk]
   exact⟨gLen hs (KO _ _),⟨(Bnd.limbs (Bnd.mag (hv _ List.mem_cons_self).1)).1,rfl⟩,qh⟩
 ·rename_i t' b l
  cases hs:isSl P t with
  |false=>exact trivial
  |true=>
   intro hv _ hvc kin hkk _
   rw[qf hkk]
   exact⟨gLen hs (fun H v h=>by obtain⟨p,c,h,_⟩:=Oj H v h;exact⟨p,c,h⟩),⟨(Bnd.sl (hv _ List.mem_cons_self).1).1,rfl⟩,qh⟩
 ·rename_i k lo n cap w nb
  cases hs:isSl P t with
  |false=>exact trivial
  |true=>
   intro hv _ hvc kin hkk _
   rw[qf hkk]
   exact⟨BQ hs (.inl ⟨_,_,_,_,rfl,rfl⟩),⟨(hv _ List.mem_cons_self).1.2,rfl⟩,qh⟩
 ·rename_i k n w nb
  cases hs:isSl P t with
  |false=>exact trivial
  |true=>
   intro hv _ hvc kin hkk _
   rw[qf hkk]
   exact⟨BQ hs (.inr (.inl ⟨_,_,rfl,rfl⟩)),⟨(hv _ List.mem_cons_self).1,rfl⟩,qh⟩
 ·rename_i k lo n w nb
  cases hs:isSl P t with
  |false=>exact trivial
  |true=>
   intro hv _ hvc kin hkk _
   rw[qf hkk]
   exact⟨Yh hs,⟨(hv _ List.mem_cons_self).1,rfl⟩,qh⟩
 ·rename_i a _ _ _ _ _ _
  cases hs:isSl P t&&jB a with
  |false=>exact trivial
  |true=>
   simp only[Bool.and_eq_true]at hs
   have:=vk hs.2;subst this
   intro hv _ hvc kin hkk _
   rw[qf hkk]
   exact⟨BQ hs.1 (.inr (.inr ⟨rfl,rfl⟩)),⟨trivial,rfl⟩,qh⟩
 ·exact trivial
theorem Zl{ty:TypeId}{x y:Operand}{ts:Array TypeId}{k:IntKind}{a b:Int}:
  OpOk P (.call {callee:= .builtin .max,args:= #[x,y],argTypes:=ts}) ty [(x,vInt k a),(y,vInt k b)] [] (vInt k (max a b)) []:=
 qo fun ac w H β hins _ _=>by
  have hx:=(hins (x,vInt k a) (by simp)).1
  have hy:=(hins (y,vInt k b) (by simp)).1
  simp only at hx hy
  refine⟨.int k (max a b),⟨rfl,rfl⟩,fun _ _ _ _=>?_⟩
  have e:(if b>a then b else a)=max a b:=by
   rw[Int.max_def];split<;>split<;>omega
  simp[execOp,resolve,invoke,builtin,hx,hy,Builtin.max_,Builtin.max2,e]
def wMax:WV→WV→HR
 | .c (.one a),.c (.one b)=>match asZ a,asZ b with
  |some (k,b1,z1),some (k',b2,z2)=>bif kbeq k k' then .ok [] (vZ k (b1+b2) (max z1 z2)) [] []else .bad
  |_,_=> .bad
 |_,_=> .bad
theorem q1z{x y:Operand}{ts:Array TypeId}{v u:WV}:HOk P (.call {callee:= .builtin .max,args:= #[x,y],argTypes:=ts}) ty [x,y] [v,u] bl (wMax v u):=by
 unfold wMax
 split
 ·rename_i a b
  split
  ·rename_i k b1 z1 k' b2 z2 h1 h2
   obtain⟨e1,o1⟩:=qH h1
   obtain⟨e2,o2⟩:=qH h2
   cases hk:kbeq k k' with
   |false=>exact trivial
   |true=>
    have:=qN hk
    subst this
    intro hv _ hvc kin hkk _
    rw[qf hkk]
    have q1:=o1 (hv _ List.mem_cons_self).1
    have q2:=o2 (hv (.c (.one b)) (by simp)).1
    refine⟨GE e1 e2 Zl,⟨?_,rfl⟩,qh⟩
    show Int.natAbs (max z1 z2)≤b1+b2
    rw[Int.max_def];split<;>omega
  ·exact trivial
 ·exact trivial
theorem Ou{ty:TypeId}{x y:Operand}{ts:Array TypeId}{k:IntKind}{a b:Int}:
  OpOk P (.call {callee:= .builtin .min,args:= #[x,y],argTypes:=ts}) ty [(x,vInt k a),(y,vInt k b)] [] (vInt k (min a b)) []:=
 qo fun ac w H β hins _ _=>by
  have hx:=(hins (x,vInt k a) (by simp)).1
  have hy:=(hins (y,vInt k b) (by simp)).1
  simp only at hx hy
  refine⟨.int k (min a b),⟨rfl,rfl⟩,fun _ _ _ _=>?_⟩
  have e:(if b<a then b else a)=min a b:=by
   rw[Int.min_def];split<;>split<;>omega
  simp[execOp,resolve,invoke,builtin,hx,hy,Builtin.min_,Builtin.min2,e]
def T8(a b:WA):HR:=match asZ a,asZ b with
  |some (k,b1,z1),some (k',b2,z2)=>bif kbeq k k' then .ok [] (vZ k (b1+b2) (min z1 z2)) [] []else .bad
  |_,_=> .bad
def wMin:WV→WV→HR
 | .c (.one a),.c (.one b)=>match asN a,asN b with
  |some (k,b1,z1),some (k',b2,z2)=>bif kbeq k k' then .ok [] (vN k (min b1 b2) (min z1 z2)) [] []else .bad
  |_,_=>T8 a b
 |_,_=> .bad
theorem q1A{x y:Operand}{ts:Array TypeId}{v u:WV}:HOk P (.call {callee:= .builtin .min,args:= #[x,y],argTypes:=ts}) ty [x,y] [v,u] bl (wMin v u):=by
 unfold wMin
 split
 ·rename_i a b
  split
  ·rename_i k b1 z1 k' b2 z2 h1 h2
   obtain⟨e1,o1⟩:=qT h1
   obtain⟨e2,o2⟩:=qT h2
   cases hk:kbeq k k' with
   |false=>exact trivial
   |true=>
    have:=qN hk
    subst this
    intro hv _ hvc kin hkk _
    rw[qf hkk]
    have q1:=o1 (hv _ List.mem_cons_self).1
    have q2:=o2 (hv (.c (.one b)) (by simp)).1
    have e:((min z1 z2:Nat):Int)=min (z1:Int) (z2:Int):=by omega
    refine⟨GE e1 e2 (by have h:= @Ou P ty x y ts k z1 z2;rw[←e]at h;exact h),⟨?_,rfl⟩,qh⟩
    show min z1 z2≤min b1 b2
    omega
  ·unfold T8
   split
   ·rename_i k b1 z1 k' b2 z2 h1 h2
    obtain⟨e1,o1⟩:=qH h1
    obtain⟨e2,o2⟩:=qH h2
    cases hk:kbeq k k' with
    |false=>exact trivial
    |true=>
     have:=qN hk
     subst this
     intro hv _ hvc kin hkk _
     rw[qf hkk]
     have q1:=o1 (hv _ List.mem_cons_self).1
     have q2:=o2 (hv (.c (.one b)) (by simp)).1
     refine⟨GE e1 e2 Ou,⟨?_,rfl⟩,qh⟩
     show Int.natAbs (min z1 z2)≤b1+b2
     rw[Int.min_def];split<;>omega
   ·exact trivial
 ·exact trivial
end
end
section
section
variable {P:Program} {bl:Nat→Option WB} {ty:TypeId}
def asL:WA→Option (Sigma fun t:Ty=>Bd×List t.den)
 | .dt (.sl t) b (l:List t.den)=>some ⟨t,b,l⟩
 | .dt .mag b (x:Nat)=>some ⟨.nat .u32,Fu b.nb,limbs x⟩
 |_=>none
theorem zG{a:WA}{t:Ty}{b:Bd}{l:List t.den}(h:asL a=some ⟨t,b,l⟩):a.exp=[.abs (flP (allC t l) l.length)]∧(a.ok→Bnd (.sl t) b l):=by
 unfold asL at h
 split at h
 ·simp only[Option.some.injEq]at h;cases h;exact⟨rfl,fun h=>h⟩
 ·simp only[Option.some.injEq]at h;cases h
  refine⟨?_,fun h=>Bnd.limbs (Bnd.mag h)⟩
  show[Atom.abs (natP _)]=_
  rw[D7]
 ·cases h
def vL(t:Ty)(n:Nat)(e:Bd)(l:List t.den):WV:= .c (.one (.dt (.sl t) (.s n e) l))
theorem Dt(t:Ty)(n:Nat)(e:Bd)(l:List t.den):(vL t n e l).exp= .c (.one (.abs (flP (allC t l) l.length))):=rfl
theorem wk{a:WA}{A:Pred}(h:a.exp=[.abs A]):(WV.c (.one a)).exp= .c (.one (.abs A)):=by
 simp only[WV.exp,WC.exp,h,List.headD_cons]
def Mi(lo:Option Nat)(j:Nat):Option Nat:=some (offs lo j)
def EZ(P:Program)(t:TypeId)(bl:Nat→Option WB)(a r:WA):HR:=
 match asN r,qW P t with
 |some (_,rb,r),some es=>match asL a with
  |some ⟨t',b,l⟩=>bif Nat.beq es t'.w&&Nat.blt 0 t'.w then .ok [r≤l.length] (vL t' b.len b.e (l.take r)) [] []else .bad
  |none=>match a with
   | .ls k lo n cap w nb=>bif Nat.beq es w then .ok [r≤cap] (.c (.one (.ls k lo r cap w rb))) [] []else .bad
   | .gs k n w nb=>match bl k with
    |some (.gro t' b l)=>bif Nat.beq es w&&Nat.beq w t'.w&&Nat.blt 0 w then .ok [r≤n,n≤l.length] (.c (.one (.gs k r w rb))) [k] []else .bad
    |_=> .bad
   |_=> .bad
 |_,_=> .bad
def F2(P:Program)(t:TypeId)(bl:Nat→Option WB)(a l0:WA):HR:=
 match asN l0,qW P t with
 |some (_,_,l0),some es=>match asL a with
  |some ⟨t',b,l⟩=>bif Nat.beq es t'.w&&Nat.blt 0 t'.w then .ok [l0≤l.length] (vL t' b.len b.e (l.drop l0)) [] []else .bad
  |none=>match a with
   | .ls k lo n cap w nb=>bif Nat.beq es w then .ok [l0≤n,l0<cap] (.c (.one (.ls k (Mi lo l0) (n-l0) (cap-l0) w nb))) [] []else .bad
   | .gs k n w nb=>match bl k with
    |some (.gro t' b l)=>bif Nat.beq es w&&Nat.beq w t'.w&&Nat.blt 0 w then .ok [l0≤n,n≤l.length] (.c (.one (.so k l0 (n-l0) w nb))) [k] []else .bad
    |_=> .bad
   |_=> .bad
 |_,_=> .bad
def F1(P:Program)(t:TypeId)(a l0 r:WA):HR:=
 match asN l0,asN r,qW P t with
 |some (_,_,l0),some (_,rb,r),some es=>match asL a with
  |some ⟨t',b,l⟩=>bif Nat.beq es t'.w&&Nat.blt 0 t'.w then .ok [l0≤r,r≤l.length] (vL t' b.len b.e ((l.drop l0).take (r-l0))) [] []else .bad
  |none=>match a with
   | .ls k lo n cap w nb=>bif Nat.beq es w then .ok [l0≤r,r≤cap,l0<cap] (.c (.one (.ls k (Mi lo l0) (r-l0) (cap-l0) w rb))) [] []else .bad
   |_=> .bad
 |_,_,_=> .bad
def GZ(P:Program)(t:TypeId)(a r m:WA):HR:=
 match asN r,asN m,qW P t with
 |some (k1,rb,r),some (k2,_,m),some es=>match a with
   | .ls k lo n cap w nb=>bif Nat.beq es w&&kbeq k1 k2 then .ok [r≤cap,r=m] (.c (.one (.ls k lo r r w rb))) [] []else .bad
   |_=> .bad
 |_,_,_=> .bad
def F0(P:Program)(t:TypeId)(a l0 r m:WA):HR:=
 match asN l0,asN r,asN m,qW P t with
 |some (_,_,l0),some (k1,rb,r),some (k2,_,m),some es=>match a with
   | .ls k lo n cap w nb=>bif Nat.beq es w&&kbeq k1 k2 then .ok [l0<r,r≤cap,r=m] (.c (.one (.ls k (Mi lo l0) (r-l0) (r-l0) w rb))) [] []else .bad
   |_=> .bad
 |_,_,_,_=> .bad
def JZ(P:Program)(t:TypeId)(bl:Nat→Option WB)(lo hi mx:Option Operand)(vs:List WV):HR:=
 match lo,hi,mx,vs with
 |none,some _,none,[.c (.one a),.c (.one r)]=>EZ P t bl a r
 |some _,none,none,[.c (.one a),.c (.one l)]=>F2 P t bl a l
 |some _,some _,none,[.c (.one a),.c (.one l),.c (.one r)]=>F1 P t a l r
 |none,some _,some _,[.c (.one a),.c (.one r),.c (.one m)]=>GZ P t a r m
 |some _,some _,some _,[.c (.one a),.c (.one l),.c (.one r),.c (.one m)]=>F0 P t a l r m
 |_,_,_,_=> .bad
theorem CV{c c':List CAtom}{n n':Nat}(h:c=c')(k:n=n'):(AV.c (.one (.abs (flP c n))))= .c (.one (.abs (flP c' n'))):=by rw[h,k]
theorem Et{t:Ty}{b:Bd}{l:List t.den}(h:Bnd (.sl t) b l)(r:Nat):Bnd (.sl t) (.s b.len b.e) (l.take r):=
 ⟨by have:=(Bnd.sl h).1;rw[List.length_take];omega,fun x hx=>(Bnd.sl h).2 x (List.mem_of_mem_take hx)⟩
theorem Is{t:Ty}{b:Bd}{l:List t.den}(h:Bnd (.sl t) b l)(r:Nat):Bnd (.sl t) (.s b.len b.e) (l.drop r):=
 ⟨by have:=(Bnd.sl h).1;rw[List.length_drop];omega,fun x hx=>(Bnd.sl h).2 x (List.mem_of_mem_drop hx)⟩
theorem NJ{t:TypeId}{x z:Operand}{a r:WA}:HOk P (.slice t x none (some z) none) ty [x,z] [.c (.one a),.c (.one r)] bl (EZ P t bl a r):=by
 unfold EZ
 split
 ·rename_i kk rb r es hr hes
  obtain⟨er,or⟩:=qT hr
  split
  ·rename_i t' b l hl
   obtain⟨el,ol⟩:=zG hl
   cases hb:Nat.beq es t'.w&&Nat.blt 0 t'.w with
   |false=>exact trivial
   |true=>
    simp only[Bool.and_eq_true]at hb
    have:=Nat.eq_of_beq_eq_true hb.1;subst this
    intro hv _ hvc kin hk _
    rw[qf hk]
    have hrl:r≤l.length:=hvc _ List.mem_cons_self
    refine⟨?_,⟨Et (ol (hv _ List.mem_cons_self).1) r,rfl⟩,qh⟩
    show OpOk P _ _ [(x,(WV.c (.one a)).exp),(z,(WV.c (.one _)).exp)] [] _ []
    rw[wk el,qD er,Dt]
    rw[CV (c':=allC t' (l.take r)) (n':=r-0) rfl (by rw[List.length_take];omega)]
    exact Q3 hes (by simpa using hb.2) (qZ _ _) rfl hrl (by rw[Nat.zero_mul,List.drop_zero,Nat.sub_zero,vC])
  ·split
   ·rename_i k lo n cap w nb _
    cases hb:Nat.beq es w with
    |false=>exact trivial
    |true=>
     have:=Nat.eq_of_beq_eq_true hb;subst this
     intro hv _ hvc kin hk _
     rw[qf hk]
     have hrl:r≤cap:=hvc _ List.mem_cons_self
     refine⟨?_,⟨⟨hrl,or (hv _ (List.mem_cons_of_mem _ List.mem_cons_self)).1⟩,rfl⟩,qh⟩
     show OpOk P _ _ [(x,_),(z,(WV.c (.one _)).exp)] [] (.c (.one (.sl k (lo.getD 0*es) r cap))) []
     rw[qD er]
     have:=LZ (P:=P) (t:=t) (ty:=ty) (x:=x) (z:=z) (k:=k) (off:=lo.getD 0*es) (n:=n) (cap:=cap) (k2:=kk) (i2:=(r:Int)) hes rfl hrl
     rw[Nat.zero_mul,Nat.add_zero,Nat.sub_zero,Nat.sub_zero]at this
     exact this
   ·rename_i k n w nb _
    split
    ·rename_i t' b l hl
     cases hb:Nat.beq es w&&Nat.beq w t'.w&&Nat.blt 0 w with
     |false=>exact trivial
     |true=>
      simp only[Bool.and_eq_true]at hb
      have:=Nat.eq_of_beq_eq_true hb.1.1;subst this
      have:=Nat.eq_of_beq_eq_true hb.1.2;subst this
      intro hv _ hvc kin hk hkb
      rw[jn hk hkb hl]
      have hrn:r≤n:=hvc _ List.mem_cons_self
      have hnl:n≤l.length:=hvc (n≤l.length) (by simp)
      refine⟨?_,⟨or (hv _ (List.mem_cons_of_mem _ List.mem_cons_self)).1,rfl⟩,qh⟩
      show OpOk P _ _ [(x,_),(z,(WV.c (.one _)).exp)] [(k,.grow t'.w (allA t' l))] (.c (.one (.gs k r))) []
      rw[qD er]
      exact LX hes (by simpa using hb.2) rfl hrn (by rw[jw];exact Nat.mul_le_mul_right _ hnl)
    ·exact trivial
   ·exact trivial
 ·exact trivial
theorem NM{t:TypeId}{x z:Operand}{a r:WA}:HOk P (.slice t x (some z) none none) ty [x,z] [.c (.one a),.c (.one r)] bl (F2 P t bl a r):=by
 unfold F2
 split
 ·rename_i kk rb r es hr hes
  obtain⟨er,or⟩:=qT hr
  split
  ·rename_i t' b l hl
   obtain⟨el,ol⟩:=zG hl
   cases hb:Nat.beq es t'.w&&Nat.blt 0 t'.w with
   |false=>exact trivial
   |true=>
    simp only[Bool.and_eq_true]at hb
    have:=Nat.eq_of_beq_eq_true hb.1;subst this
    intro hv _ hvc kin hk _
    rw[qf hk]
    have hrl:r≤l.length:=hvc _ List.mem_cons_self
    refine⟨?_,⟨Is (ol (hv _ List.mem_cons_self).1) r,rfl⟩,qh⟩
    show OpOk P _ _ [(x,(WV.c (.one a)).exp),(z,(WV.c (.one _)).exp)] [] _ []
    rw[wk el,qD er,Dt]
    rw[CV (c':=allC t' (l.drop r)) (n':=l.length-r) rfl (by rw[List.length_drop])]
    exact Q6 hes (by simpa using hb.2) (qZ _ _) rfl hrl (by rw[wC,List.take_of_length_le (by rw[qZ,List.length_drop];exact Nat.le_refl _)])
  ·split
   ·rename_i k lo n cap w nb _
    cases hb:Nat.beq es w with
    |false=>exact trivial
    |true=>
     have:=Nat.eq_of_beq_eq_true hb;subst this
     intro hv _ hvc kin hk _
     rw[qf hk]
     have h1:r≤n:=hvc _ List.mem_cons_self
     have h2:r<cap:=hvc (r<cap) (by simp)
     have ho:n≤cap∧n≤nb:=(hv _ List.mem_cons_self).1
     refine⟨?_,⟨⟨by omega,by omega⟩,rfl⟩,qh⟩
     show OpOk P _ _ [(x,_),(z,(WV.c (.one _)).exp)] [] (.c (.one (.sl k (offs lo r*es) (n-r) (cap-r)))) []
     rw[qD er,AQ,Nat.add_mul]
     exact M2 hes rfl h1 ho.1 h2
   ·rename_i k n w nb _
    split
    ·rename_i t' b l hl
     cases hb:Nat.beq es w&&Nat.beq w t'.w&&Nat.blt 0 w with
     |false=>exact trivial
     |true=>
      simp only[Bool.and_eq_true]at hb
      have:=Nat.eq_of_beq_eq_true hb.1.1;subst this
      have:=Nat.eq_of_beq_eq_true hb.1.2;subst this
      intro hv _ hvc kin hk hkb
      rw[jn hk hkb hl]
      have hrn:r≤n:=hvc _ List.mem_cons_self
      have hnl:n≤l.length:=hvc (n≤l.length) (by simp)
      have ho:n≤nb:=(hv _ List.mem_cons_self).1
      refine⟨?_,⟨show n-r≤nb by omega,rfl⟩,qh⟩
      show OpOk P _ _ [(x,_),(z,(WV.c (.one _)).exp)] [(k,.grow t'.w (allA t' l))] (.c (.one (.so k (r*t'.w) r (n-r)))) []
      rw[qD er]
      exact LY hes (by simpa using hb.2) rfl hrn (by rw[jw];exact Nat.mul_le_mul_right _ hnl)
    ·exact trivial
   ·exact trivial
 ·exact trivial
theorem NL{t:TypeId}{x y z:Operand}{a l r:WA}:HOk P (.slice t x (some y) (some z) none) ty [x,y,z] [.c (.one a),.c (.one l),.c (.one r)] bl (F1 P t a l r):=by
 unfold F1
 split
 ·rename_i k1 b1 l0 k2 rb r es hl0 hr hes
  obtain⟨e0,o0⟩:=qT hl0
  obtain⟨er,or⟩:=qT hr
  split
  ·rename_i t' b l hl
   obtain⟨el,ol⟩:=zG hl
   cases hb:Nat.beq es t'.w&&Nat.blt 0 t'.w with
   |false=>exact trivial
   |true=>
    simp only[Bool.and_eq_true]at hb
    have:=Nat.eq_of_beq_eq_true hb.1;subst this
    intro hv _ hvc kin hk _
    rw[qf hk]
    have h1:l0≤r:=hvc _ List.mem_cons_self
    have h2:r≤l.length:=hvc (r≤l.length) (by simp)
    refine⟨?_,⟨Et (b:= .s b.len b.e) (Is (ol (hv _ List.mem_cons_self).1) l0) (r-l0),rfl⟩,qh⟩
    show OpOk P _ _ [(x,(WV.c (.one a)).exp),(y,(WV.c (.one _)).exp),(z,(WV.c (.one _)).exp)] [] _ []
    rw[wk el,qD e0,qD er,Dt]
    rw[CV (c':=allC t' ((l.drop l0).take (r-l0))) (n':=r-l0) rfl (by rw[List.length_take,List.length_drop];omega)]
    exact Q5 hes (by simpa using hb.2) (qZ _ _) rfl rfl h1 h2 (by rw[wC,vC])
  ·split
   ·rename_i k lo n cap w nb _
    cases hb:Nat.beq es w with
    |false=>exact trivial
    |true=>
     have:=Nat.eq_of_beq_eq_true hb;subst this
     intro hv _ hvc kin hk _
     rw[qf hk]
     have h1:l0≤r:=hvc _ List.mem_cons_self
     have h2:r≤cap:=hvc (r≤cap) (by simp)
     have h3:l0<cap:=hvc (l0<cap) (by simp)
     have h4:=or (hv _ (List.mem_cons_of_mem _ (List.mem_cons_of_mem _ List.mem_cons_self))).1
     refine⟨?_,⟨⟨by omega,by omega⟩,rfl⟩,qh⟩
     show OpOk P _ _ [(x,_),(y,(WV.c (.one _)).exp),(z,(WV.c (.one _)).exp)] [] (.c (.one (.sl k (offs lo l0*es) (r-l0) (cap-l0)))) []
     rw[qD e0,qD er,AQ,Nat.add_mul]
     exact M1 hes rfl rfl h1 h2 h3
   ·exact trivial
 ·exact trivial
theorem Q9{t:TypeId}{x z z':Operand}{a r m:WA}:HOk P (.slice t x none (some z) (some z')) ty [x,z,z'] [.c (.one a),.c (.one r),.c (.one m)] bl (GZ P t a r m):=by
 unfold GZ
 split
 ·rename_i k1 rb r k2 mb m es hr hm hes
  obtain⟨er,or⟩:=qT hr
  obtain⟨em,om⟩:=qT hm
  split
  ·rename_i k lo n cap w nb
   cases hb:Nat.beq es w&&kbeq k1 k2 with
   |false=>exact trivial
   |true=>
    simp only[Bool.and_eq_true]at hb
    have:=Nat.eq_of_beq_eq_true hb.1;subst this
    cases qN hb.2
    intro hv _ hvc kin hk _
    rw[qf hk]
    have h1:r≤cap:=hvc _ List.mem_cons_self
    have h2:r=m:=hvc (r=m) (by simp)
    have h4:=or (hv _ (List.mem_cons_of_mem _ List.mem_cons_self)).1
    refine⟨?_,⟨⟨Nat.le_refl _,h4⟩,rfl⟩,qh⟩
    show OpOk P _ _ [(x,_),(z,(WV.c (.one _)).exp),(z',(WV.c (.one _)).exp)] [] (.c (.one (.sl k (lo.getD 0*es) r r))) []
    rw[qD er,qD em,←h2]
    exact NG hes rfl h1
  ·exact trivial
 ·exact trivial
theorem NK{t:TypeId}{x y z z':Operand}{a l r m:WA}:HOk P (.slice t x (some y) (some z) (some z')) ty [x,y,z,z'] [.c (.one a),.c (.one l),.c (.one r),.c (.one m)] bl (F0 P t a l r m):=by
 unfold F0
 split
 ·rename_i k0 b0 l0 k1 rb r k2 mb m es hl hr hm hes
  obtain⟨el,ol⟩:=qT hl
  obtain⟨er,or⟩:=qT hr
  obtain⟨em,om⟩:=qT hm
  split
  ·rename_i k lo n cap w nb
   cases hb:Nat.beq es w&&kbeq k1 k2 with
   |false=>exact trivial
   |true=>
    simp only[Bool.and_eq_true]at hb
    have:=Nat.eq_of_beq_eq_true hb.1;subst this
    cases qN hb.2
    intro hv _ hvc kin hk _
    rw[qf hk]
    have h1:l0<r:=hvc _ List.mem_cons_self
    have h2:r≤cap:=hvc (r≤cap) (by simp)
    have h3:r=m:=hvc (r=m) (by simp)
    have h4:=or (hv _ (List.mem_cons_of_mem _ (List.mem_cons_of_mem _ List.mem_cons_self))).1
    refine⟨?_,⟨⟨Nat.le_refl _,by omega⟩,rfl⟩,qh⟩
    show OpOk P _ _ [(x,_),(y,(WV.c (.one _)).exp),(z,(WV.c (.one _)).exp),(z',(WV.c (.one _)).exp)] [] (.c (.one (.sl k (offs lo l0*es) (r-l0) (r-l0)))) []
    rw[qD el,qD er,qD em,←h3,AQ,Nat.add_mul]
    exact M0 hes rfl rfl h1 h2
  ·exact trivial
 ·exact trivial
theorem Ue{t:TypeId}{x:Operand}{lo hi mx:Option Operand}{vs:List WV}:HOk P (.slice t x lo hi mx) ty (Op.operands (.slice t x lo hi mx)).toList vs bl (JZ P t bl lo hi mx vs):=by
 unfold JZ
 split
 ·exact NJ
 ·exact NM
 ·exact NL
 ·exact Q9
 ·exact NK
 ·exact trivial
def zc:Ty→Option (List Value)
 | .nat k=>some [.int k 0]
 | .int k=>some [.int k 0]
 | .bool=>some [.bool false]
 | .str=>some [.string ByteArray.empty]
 | .mag=>some [.slice none 0 0]
 | .rat=>some [.bool false,.slice none 0 0,.slice none 0 0]
 | .sl _=>some [.slice none 0 0]
 | .pr a b=>match zc a with
  |some x=>match zc b with
   |some y=>some (x++y)
   |none=>none
  |none=>none
 | .st t=>zc t
 | .fn _=>none
 | .pt _=>none
 | .cl _ _=>none
theorem BP: ∀{t:Ty}{vs:List Value},zc t=some vs→ ∀β H,Sats β H (qn t t.dft) vs
 | .nat k,vs,h,β,H=>by simp[zc]at h;subst h;exact⟨⟨rfl,rfl⟩,trivial⟩
 | .int k,vs,h,β,H=>by simp[zc]at h;subst h;exact⟨⟨rfl,rfl⟩,trivial⟩
 | .bool,vs,h,β,H=>by simp[zc]at h;subst h;exact⟨⟨rfl,rfl⟩,trivial⟩
 | .str,vs,h,β,H=>by simp[zc]at h;subst h;exact⟨⟨rfl,rfl⟩,trivial⟩
 | .mag,vs,h,β,H=>by simp[zc]at h;subst h;exact⟨flnil,trivial⟩
 | .rat,vs,h,β,H=>by simp[zc]at h;subst h;exact⟨⟨rfl,rfl⟩,flnil,flnil,trivial⟩
 | .sl _,vs,h,β,H=>by simp[zc]at h;subst h;exact⟨flnil,trivial⟩
 | .pr a b,vs,h,β,H=>by
  simp only[zc]at h
  cases h1:zc a with
  |none=>rw[h1]at h;cases h
  |some x=>
   rw[h1]at h;simp only at h
   cases h2:zc b with
   |none=>rw[h2]at h;cases h
   |some y=>
    rw[h2]at h;simp at h;subst h
    have:qn (.pr a b) (Ty.dft (.pr a b))=qn a a.dft++qn b b.dft:=by simp[qn,cellsC,Ty.dft]
    rw[this]
    exact Sats.append (BP h1 β H) (BP h2 β H)
 | .st t,vs,h,β,H=>BP (t:=t) h β H
 | .fn _,vs,h,β,H=>by simp[zc]at h
 | .pt _,vs,h,β,H=>by simp[zc]at h
 | .cl _ _,vs,h,β,H=>by simp[zc]at h
def veq:Value→Value→Bool
 | .int k z,.int k' z'=>kbeq k k'&&decide (z=z')
 | .bool a,.bool b=>(a&&b)||(!a&&!b)
 | .string a,.string b=>Nat.beq a.size 0&&Nat.beq b.size 0
 | .slice none n c,.slice none n' c'=>Nat.beq n n'&&Nat.beq c c'
 |_,_=>false
theorem Pi{a b:Value}(h:veq a b=true):a=b:=by
 unfold veq at h
 split at h
 ·simp only[Bool.and_eq_true,decide_eq_true_eq]at h;rw[qN h.1,h.2]
 ·rename_i a b;cases a<;>cases b<;>first|rfl|cases h
 ·simp only[Bool.and_eq_true]at h
  rename_i a b
  have h1:=Nat.eq_of_beq_eq_true h.1
  have h2:=Nat.eq_of_beq_eq_true h.2
  congr 1
  apply ByteArray.ext
  exact(Array.eq_empty_of_size_eq_zero h1).trans (Array.eq_empty_of_size_eq_zero h2).symm
 ·simp only[Bool.and_eq_true]at h;rw[Nat.eq_of_beq_eq_true h.1,Nat.eq_of_beq_eq_true h.2]
 ·cases h
def vseq:List Value→List Value→Bool
 |[],[]=>true
 |a::r,b::s=>veq a b&&vseq r s
 |_,_=>false
theorem LD: ∀{a b:List Value},vseq a b=true→a=b
 |[],[],_=>rfl
 |a::r,b::s,h=>by
  simp only[vseq,Bool.and_eq_true]at h
  rw[Pi h.1,LD h.2]
 |[],_::_,h=>by simp[vseq]at h
 |_::_,[],h=>by simp[vseq]at h
theorem N2(z:Array Value)(hz:0<z.size): ∀n:Nat,((Array.range (n*z.size)).map (z[· %z.size]!)).toList=(List.replicate n z.toList).flatten:=by
 intro n
 have main: ∀n:Nat,(List.range (n*z.size)).map (fun i=>z[i%z.size]!)=(List.replicate n z.toList).flatten:=by
  intro n
  induction n with
  |zero=>simp
  |succ n ih=>
   rw[Nat.succ_mul,List.range_add,List.map_append,ih,List.replicate_succ',List.flatten_append]
   congr 1
   rw[List.map_map]
   simp only[List.flatten_cons,List.flatten_nil,List.append_nil]
   refine List.ext_getElem (by simp) fun i h1 h2=>?_
   have hi:i<z.size:=by simpa using h1
   simp only[List.getElem_map,Function.comp,List.getElem_range]
   rw[show(n*z.size+i)%z.size=i by rw[Nat.add_comm,Nat.add_mul_mod_self_right,Nat.mod_eq_of_lt hi]]
   simp[hi]
 rw[Array.toList_map,Array.toList_range]
 exact main n
theorem B7{t:Ty}{z:Array Value}(h:zc t=some z.toList)(hw:0<t.w)(n:Nat)(β:Bm)(H:Heap):Sats β H (allA t (List.replicate n t.dft)) (((Array.range (n*t.w)).map (z[· %z.size]!)).toList):=by
 have hs:z.size=t.w:=by
  have:=(BP h β H).length
  rw[jA]at this
  simpa using this.symm
 rw[←hs,N2 z (by omega)]
 induction n with
 |zero=>exact trivial
 |succ n ih=>
  rw[List.replicate_succ,List.replicate_succ,List.flatten_cons]
  show Sats β H (qn t t.dft++allA t _) _
  exact Sats.append (BP h β H) ih
inductive MH where
 |no
 |arr (t:Ty) (b:Bd)
 |gro (t:Ty) (b:Bd)
 |im (t:Ty) (b:Bd)
def zOk(P:Program)(ts:TypeId)(t:Ty):Bool:=
 match elZ P ts,elB P ts,zc t with
 |some z,some (s,_),some l=>vseq l z.toList&&Nat.beq s t.w&&Nat.blt 0 s
 |_,_,_=>false
theorem Ax{ts:TypeId}{t:Ty}(h:zOk P ts t=true): ∃z b,elZ P ts=some z∧elB P ts=some (t.w,b)∧zc t=some z.toList∧0<t.w∧z.size=t.w:=by
 unfold zOk at h
 split at h
 ·rename_i z s b l h1 h2 h3
  simp only[Bool.and_eq_true]at h
  have e1:=LD h.1.1
  have e2:=Nat.eq_of_beq_eq_true h.1.2
  subst e1 e2
  refine⟨z,b,h1,h2,h3,by simpa using h.2,?_⟩
  have:=(BP h3 (fun _=>none) (fun _=>none)).length
  rw[jA]at this
  simpa using this.symm
 ·cases h
def Bd.fit:Ty→Bd→Bool
 | .nat _,.n _| .int _,.n _| .str,.n _| .mag,.n _| .rat,.n _=>true
 | .bool,_| .fn _,_=>true
 | .sl t,.s _ e=>true
 | .pr a b,.p c d=>Bd.fit a c&&Bd.fit b d
 | .st t,e=>Bd.fit t e
 |_,_=>false
theorem Bk: ∀{t:Ty}{b:Bd},Bd.fit t b=true→Bnd t b t.dft
 | .nat _,.n _,_=>Nat.zero_le _
 | .int _,.n _,_=>Nat.zero_le _
 | .str,.n _,_=>Nat.zero_le _
 | .mag,.n b,_=>show(0:Nat)<2^b from Nat.pow_pos (by decide)
 | .rat,.n b,_=>⟨show(0:Nat)<2^b from Nat.pow_pos (by decide),show(1:Nat)≤2^b from Nat.pow_pos (by decide)⟩
 | .bool,_,_=>trivial
 | .fn _,_,_=>trivial
 | .sl t,.s _ e,_=>⟨Nat.zero_le _,fun x hx=>by simp[Ty.dft]at hx⟩
 | .pr a b,.p c d,h=>by
  simp only[Bd.fit,Bool.and_eq_true]at h
  exact⟨Bk h.1,Bk h.2⟩
 | .st t,e,h=>Bk (t:=t) h
 | .nat _,.u,h| .nat _,.s _ _,h| .nat _,.p _ _,h=>by simp[Bd.fit]at h
 | .int _,.u,h| .int _,.s _ _,h| .int _,.p _ _,h=>by simp[Bd.fit]at h
 | .str,.u,h| .str,.s _ _,h| .str,.p _ _,h=>by simp[Bd.fit]at h
 | .mag,.u,h| .mag,.s _ _,h| .mag,.p _ _,h=>by simp[Bd.fit]at h
 | .rat,.u,h| .rat,.s _ _,h| .rat,.p _ _,h=>by simp[Bd.fit]at h
 | .sl _,.u,h| .sl _,.n _,h| .sl _,.p _ _,h=>by simp[Bd.fit]at h
 | .pr _ _,.u,h| .pr _ _,.n _,h| .pr _ _,.s _ _,h=>by simp[Bd.fit]at h
theorem NF{t ty:TypeId}{x y:Operand}{d n s b:Nat}{z:Array Value}(hb:elB P t=some (s,b))(hz:elZ P t=some z)(hs:0<s)(hn:n*b≤281474976710656)(hn2:n<9223372036854775808)
  {R:AV}{B:Blk}(hR: ∀(β:Bm)(H:Heap)(w:World),R.sat (β.set d (some (w.heap.size,n))) H (.slice (some ⟨w.heap.size,0,none⟩) n n))
  (hB: ∀(β:Bm)(H:Heap)(w:World)(T:TypeId),B.rep (β.set d (some (w.heap.size,n))) (w.alloc (.cells ((Array.range (n*s)).map (z[· %z.size]!)) T)) H d):
  OpOk P (.makeSlice t x y) ty [(x,vInt .i64 n),(y,vInt .i64 n)] [] R [(d,some B)]:=by
 intro dst pos after guard a w H β K Q hins _ _ hon hK
 have hx:=(hins _ List.mem_cons_self).1
 have hy:=(hins (y,vInt .i64 n) (by simp)).1
 simp only at hx hy
 obtain⟨T,hrun⟩:=HP hb hz .i64 n hn hn2 hs w
 unfold Oper.wp
 have:(execOp a.eval ⟨dst,.makeSlice t x y,ty,pos,after,guard⟩).run P w= .ok (.value (.slice (some ⟨w.heap.size,0,none⟩) n n)) (w.alloc (.cells ((Array.range (n*s)).map (z[· %z.size]!)) T)):=by
  simp only[execOp,hx,hy,Sem.run_bind,hrun,Result.andThen_ok,Sem.run_pure]
 rw[this]
 refine hK _ _ H (β.set d (some (w.heap.size,n))) ?_ (hR _ _ _) ?_
 ·simpa[kwOf,knOf,kdOf,look]using Step.alloc (β:=β) d n (.cells _ T) hon
 ·intro k' b' hb'
  simp only[List.mem_singleton,Prod.mk.injEq,Option.some.injEq]at hb'
  obtain⟨rfl,rfl⟩:=hb'
  exact hB _ _ _ _
def SD(h:MH)(d:Nat)(nb n:Nat)(l:(t:Ty)→List t.den):Option (Ty×Bd×WV×WB):=
 match h with
 | .arr t b=>some (t,b,.c (.one (.ls d none n n t.w nb)),.arr t b (l t))
 | .gro t b=>some (t,b,.c (.one (.gs d n t.w nb)),.gro t b (l t))
 |_=>none
def MU(P:Program)(ts:TypeId)(h:MH)(d:Nat):WV→WV→HR
 | .c (.one a),.c (.one c)=>match asN a,asN c,elB P ts with
  |some (.i64,nb,n),some (.i64,_,m),some (_,by_)=>match SD h d nb n (fun t=>List.replicate n t.dft)with
   |some (t,b,R,B)=>bif zOk P ts t&&Bd.fit t b&&Nat.ble (nb*by_) 281474976710656&&Nat.ble nb 9223372036854775807 then
     (bif AK a&&AK c&&Nat.beq n m then .ok [] R [] [(d,some B)]else .ok [m=n] R [] [(d,some B)])else .bad
   |none=> .bad
  |_,_,_=> .bad
 |_,_=> .bad
theorem Yo{ts:TypeId}{h:MH}{d:Nat}{x y:Operand}{p v:WV}:HOk P (.makeSlice ts x y) ty [x,y] [p,v] bl (MU P ts h d p v):=by
 unfold MU
 split
 ·rename_i a c
  split
  ·rename_i nb n mb m s by_ ha hc hb
   obtain⟨ea,oa⟩:=qT ha
   obtain⟨ec,oc⟩:=qT hc
   split
   ·rename_i t b R B hm
    have main:(∀v∈[WV.c (.one a),.c (.one c)],v.ok)→(zOk P ts t&&Bd.fit t b&&Nat.ble (nb*by_) 281474976710656&&Nat.ble nb 9223372036854775807)=true→m=n→ ∀kin:List (Nat×WB),kin.map (·.1)=[]→
      OpOk P (.makeSlice ts x y) ty (List.zip [x,y] ([WV.c (.one a),.c (.one c)].map WV.exp)) (kinE kin) R.exp (LwE [(d,some B)])∧R.ok∧LwOk [(d,some B)]:=by
     intro hv hcond hmn kin hk
     rw[qf hk]
     subst hmn
     simp only[Bool.and_eq_true]at hcond
     obtain⟨⟨⟨hz,hf⟩,h1⟩,h2⟩:=hcond
     have h1:=Nat.le_of_ble_eq_true h1
     have h2:=Nat.le_of_ble_eq_true h2
     obtain⟨z,b0,e1,e2,e3,e4,e5⟩:=Ax hz
     have hb0:=hb
     rw[e2]at hb0;cases hb0
     have hn:=oa (hv _ List.mem_cons_self).1
     have hn1:m*by_≤281474976710656:=Nat.le_trans (Nat.mul_le_mul_right _ hn) h1
     have hall: ∀x∈List.replicate m t.dft,Bnd t b x:=fun x hx=>by rw[List.eq_of_mem_replicate hx];exact Bk hf
     show OpOk P _ _ [(x,(WV.c (.one a)).exp),(y,(WV.c (.one c)).exp)] [] R.exp [(d,some B.exp)]∧_
     rw[qD ea,qD ec]
     unfold SD at hm
     split at hm
     ·simp only[Option.some.injEq,Prod.mk.injEq]at hm
      obtain⟨rfl,rfl,rfl,rfl⟩:=hm
      refine⟨NF e2 e1 e4 hn1 (by omega) (fun β H w=>⟨_,_,Bm.set_same _ _ _,by simp⟩) (fun β H w T=>⟨_,_,_,T,Bm.set_same _ _ _,vF w _,B7 e3 e4 _ _ _⟩),⟨⟨Nat.le_refl _,hn⟩,rfl⟩,jo hall⟩
     ·simp only[Option.some.injEq,Prod.mk.injEq]at hm
      obtain⟨rfl,rfl,rfl,rfl⟩:=hm
      refine⟨NF e2 e1 e4 hn1 (by omega) (fun β H w=> .inr ⟨_,_,Bm.set_same _ _ _,rfl⟩) (fun β H w T=> .inr ⟨_,_,_,T,Bm.set_same _ _ _,vF w _,by simp,?_,?_⟩),⟨hn,rfl⟩,jo hall⟩
      ·rw[jw];simp
      ·have hl:=(B7 (n:=m) e3 e4 (β.set d (some (w.heap.size,m))) H).length
       rw[hl,List.take_length];exact B7 e3 e4 _ _ _
     ·cases hm
    cases hcond:zOk P ts t&&Bd.fit t b&&Nat.ble (nb*by_) 281474976710656&&Nat.ble nb 9223372036854775807 with
    |false=>exact trivial
    |true=>
     simp only[cond_true]
     cases hl:AK a&&AK c&&Nat.beq n m with
     |true=>
      simp only[Bool.and_eq_true]at hl
      exact fun hv _ _ kin hk _=>main hv hcond (Nat.eq_of_beq_eq_true hl.2).symm kin hk
     |false=>exact fun hv _ hvc kin hk _=>main hv hcond (hvc _ List.mem_cons_self) kin hk
   ·exact trivial
  ·exact trivial
 ·exact trivial
def LH:WV→WV→Bool
 | .c (.one (.kn k z)),.c (.one c)=>kbeq k .i64&&decide (z=0)&&!AK c
 |_,_=>false
def JX(P:Program)(ts:TypeId)(h:MH)(d:Nat):WV→WV→HR
 | .c (.one (.kn .i64 (.ofNat 0))),.c (.one c)=>match h,asN c,elB P ts with
  | .gro t b,some (.i64,mb,m),some (_,by_)=>bif zOk P ts t&&Nat.ble (mb*by_) 281474976710656&&Nat.ble mb 9223372036854775807 then .ok [] (.c (.one (.gs d 0 t.w 0))) [] [(d,some (.gro t b []))]else .bad
  |_,_,_=> .bad
 |_,_=> .bad
def JY(P:Program)(ts:TypeId)(h:MH)(d:Nat)(p v:WV):HR:=bif LH p v then JX P ts h d p v else MU P ts h d p v
theorem Uc{ts:TypeId}{h:MH}{d:Nat}{x y:Operand}{p v:WV}:HOk P (.makeSlice ts x y) ty [x,y] [p,v] bl (JX P ts h d p v):=by
 unfold JX
 split
 ·rename_i c
  split
  ·rename_i t b mb m s by_ hc hb
   obtain⟨ec,oc⟩:=qT hc
   cases hcond:zOk P ts t&&Nat.ble (mb*by_) 281474976710656&&Nat.ble mb 9223372036854775807 with
   |false=>exact trivial
   |true=>
    simp only[Bool.and_eq_true]at hcond
    obtain⟨⟨hz,h1⟩,h2⟩:=hcond
    have h1:=Nat.le_of_ble_eq_true h1
    have h2:=Nat.le_of_ble_eq_true h2
    obtain⟨z,b0,e1,e2,e3,e4,e5⟩:=Ax hz
    have hb0:=hb
    rw[e2]at hb0;cases hb0
    intro hv _ _ kin hk _
    rw[qf hk]
    have hn:=oc (hv _ (List.mem_cons_of_mem _ List.mem_cons_self)).1
    have hn1:m*by_≤281474976710656:=Nat.le_trans (Nat.mul_le_mul_right _ hn) h1
    refine⟨?_,⟨Nat.le_refl 0,rfl⟩,jo (show∀u∈([]:List t.den),Bnd t b u from fun u hu=>by cases hu)⟩
    show OpOk P _ _ [(x,vInt .i64 0),(y,(WV.c (.one c)).exp)] [] _ _
    rw[qD ec]
    exact Yi e2 e1 e4 hn1 (by omega)
  ·exact trivial
 ·exact trivial
theorem Ud{ts:TypeId}{h:MH}{d:Nat}{x y:Operand}{p v:WV}:HOk P (.makeSlice ts x y) ty [x,y] [p,v] bl (JY P ts h d p v):=by
 unfold JY
 cases LH p v with
 |true=>exact Uc
 |false=>exact Yo
def clrL(t:Ty)(l:List t.den)(lo n:Nat):List t.den:=l.take lo++(List.replicate n t.dft++l.drop (lo+n))
theorem PK(t:Ty)(l:List t.den)(lo n:Nat):spl (allA t l) (lo*t.w) (allA t (List.replicate n t.dft))=allA t (clrL t l lo n):=by
 unfold spl clrL
 rw[wc,wc,AA,jw,List.length_replicate,←Nat.add_mul,Az]
def JU(P:Program)(ts:TypeId)(bl:Nat→Option WB):WV→HR
 | .c (.one (.so k lo n w nb))=>match bl k with
  |some (.gro t b l)=>bif zOk P ts t&&Bd.fit t b&&Nat.beq w t.w then .ok [0<n,lo+n≤l.length] v6 [k] [(k,some (.gro t b (clrL t l lo n)))]else .bad
  |_=> .bad
 |_=> .bad
theorem U9{ts:TypeId}{x:Operand}{v:WV}:HOk P (.call {callee:= .builtin .clear,args:= #[x],argTypes:= #[ts]}) ty [x] [v] bl (JU P ts bl v):=by
 unfold JU
 split
 ·rename_i k lo n w nb
  split
  ·rename_i t b l hl
   cases hb:zOk P ts t&&Bd.fit t b&&Nat.beq w t.w with
   |false=>exact trivial
   |true=>
    simp only[Bool.and_eq_true]at hb
    obtain⟨⟨hz,hf⟩,hw⟩:=hb
    have:=Nat.eq_of_beq_eq_true hw;subst this
    obtain⟨z,b0,e1,e2,e3,e4,e5⟩:=Ax hz
    intro hv hbl hvc kin hk hkb
    rw[jn hk hkb hl]
    have h1:0<n:=hvc _ List.mem_cons_self
    have h2:lo+n≤l.length:=hvc (lo+n≤l.length) (by simp)
    have hok: ∀u∈l,Bnd t b u:=hbl k _ hl
    refine⟨?_,(fun x hx=>by simp at hx),jo (show∀u∈clrL t l lo n,Bnd t b u from fun u hu=>?_)⟩
    ·show OpOk P _ _ [(x,_)] [(k,.grow t.w (allA t l))] w8 [(k,some (.grow t.w (allA t (clrL t l lo n))))]
     rw[←PK]
     exact Yd e2 e1 e5 h1 (by rw[jw,←Nat.add_mul];exact Nat.mul_le_mul_right _ h2) (B7 e3 e4 n)
    ·unfold clrL at hu
     rcases List.mem_append.1 hu with hu|hu
     ·exact hok u (List.mem_of_mem_take hu)
     ·rcases List.mem_append.1 hu with hu|hu
      ·rw[List.eq_of_mem_replicate hu];exact Bk hf
      ·exact hok u (List.mem_of_mem_drop hu)
  ·exact trivial
 ·exact trivial
def wfill(place:Nat→Option (Nat×Nat)):List WA→List (Nat×WC)→Option (List WA)
 |l,[]=>some l
 |l,(i,x)::rest=>match place i with
  |none=>none
  |some (off,s)=>bif Nat.beq (WAs.wd x.cells) s then(match carve l off s with|some (a,_,p)=>wfill place (a++(x.cells++p)) rest|none=>none)else none
theorem Cz{place:Nat→Option (Nat×Nat)}: ∀{parts:List (Nat×WC)}{l r:List WA},wfill place l parts=some r→WAs.ok l→(∀p∈parts,p.2.ok)→
  afill place (WAs.exp l) (parts.map fun p=>(p.1,p.2.exp))=some (WAs.exp r)∧WAs.ok r
 |[],l,r,h,hl,_=>by simp[wfill]at h;subst h;exact⟨rfl,hl⟩
 |(i,x)::rest,l,r,h,hl,hp=>by
  simp only[wfill]at h
  simp only[List.map_cons,afill]
  cases hpl:place i with
  |none=>rw[hpl]at h;cases h
  |some q=>
   obtain⟨off,s⟩:=q
   rw[hpl]at h;simp only at h⊢
   cases hw:Nat.beq (WAs.wd x.cells) s with
   |false=>rw[hw]at h;cases h
   |true=>
    rw[hw]at h;simp only[cond_true]at h
    have hw:=Nat.eq_of_beq_eq_true hw
    cases hc:carve l off s with
    |none=>rw[hc]at h;cases h
    |some q=>
     obtain⟨a,m,p⟩:=q
     rw[hc]at h;simp only at h
     have hx:x.ok:=hp _ List.mem_cons_self
     have hvl:(WAs.exp x.cells).length=s:=by rw[WAs.exp_len,hw]
     have hok:=(je hc).2.2.2 hl
     obtain⟨h1,h2⟩:=Cz h (WAs.ok_app.2 ⟨hok.1,WAs.ok_app.2 ⟨WC.ok_cells hx,hok.2.2⟩⟩) (fun p hp'=>hp p (List.mem_cons_of_mem _ hp'))
     refine⟨?_,h2⟩
     have hle:=(vd hc).2
     have e1:Nat.beq x.exp.cells.length s=true:=by rw[WC.exp_cells hx,hvl];exact Nat.beq_refl s
     have e2:Nat.ble (off+s) (WAs.exp l).length=true:=Nat.ble_eq_true_of_le hle
     rw[e1,e2]
     simp only[Bool.and_self,cond_true]
     rw[WC.exp_cells hx,CJ hc hvl]
     exact h1
def wcs:List WV→Option (List WC)
 |[]=>some []
 | .c x::r=>match wcs r with|some l=>some (x::l)|none=>none
 | .tup _::_=>none
theorem F3: ∀{vs:List WV}{l:List WC},wcs vs=some l→vs=l.map WV.c
 |[],l,h=>by simp[wcs]at h;subst h;rfl
 | .c x::r,l,h=>by
  simp only[wcs]at h
  cases hr:wcs r with
  |none=>rw[hr]at h;cases h
  |some l'=>rw[hr]at h;simp at h;subst h;rw[F3 hr];rfl
 | .tup _::_,_,h=>by simp[wcs]at h
def JQ(P:Program)(t:TypeId)(parts:Array (Nat×Operand))(vs:List WV):HR:=
 match P.info? t with
 |some ti=>match ti.zero with
  |some z=>match vT z.cells.toList with
   |some zs=>match GG P t with
    |some place=>match wcs vs with
     |some cs=>bif Nat.beq parts.size cs.length&&Er P t then(match wfill place zs (List.zip (parts.toList.map (·.1)) cs)with|some r=> .ok [] (.c (.agg r)) [] []|none=> .bad)else .bad
     |none=> .bad
    |none=> .bad
   |none=> .bad
  |none=> .bad
 |none=> .bad
theorem Bh{α β γ:Type}(f:β→γ): ∀(l:List α)(m:List β),(List.zip l m).map (fun p=>(p.1,f p.2))=List.zip l (m.map f)
 |[],_=>by simp
 |_::_,[]=>by simp
 |a::l,b::m=>by simp[Bh f l m]
theorem U5{t:TypeId}{parts:Array (Nat×Operand)}{vs:List WV}:HOk P (.build t parts) ty (parts.toList.map (·.2)) vs bl (JQ P t parts vs):=by
 unfold JQ
 split
 ·rename_i ti hi
  split
  ·rename_i z hz
   split
   ·rename_i zs hzs
    split
    ·rename_i place hp
     split
     ·rename_i cs hcs
      cases hb:Nat.beq parts.size cs.length&&Er P t with
      |false=>exact trivial
      |true=>
       simp only[Bool.and_eq_true]at hb
       simp only[cond_true]
       split
       ·rename_i r hf
        intro hv _ _ kin hk _
        rw[qf hk]
        have:=F3 hcs;subst this
        obtain⟨z1,z2⟩:=vr hzs
        have hvc: ∀x∈cs,x.ok:=fun x hx=>hv (.c x) (List.mem_map.2 ⟨x,hx,rfl⟩)
        obtain⟨f1,f2⟩:=Cz hf z2 (fun p hp=>hvc _ (List.of_mem_zip hp).2)
        rw[Bh]at f1
        refine⟨?_,f2,qh⟩
        have h3:=hb.2
        have:=QO (P:=P) (ty:=ty) (parts:=parts) (vs:=cs.map WC.exp) hi hz z1 hp (by rw[List.length_map];exact Nat.eq_of_beq_eq_true hb.1) (fun fs hfs=>by unfold Er at h3;rw[hfs]at h3;exact h3) f1
        rw[List.map_map]at this
        rw[List.map_map]
        exact this
       ·exact trivial
     ·exact trivial
    ·exact trivial
   ·exact trivial
  ·exact trivial
 ·exact trivial
def w6(t:Ty)(b:Bd):Nat→List WA→Option (List t.den)
 |0,[]=>some []
 |0,_::_=>none
 |n+1,l=>match reify t l with
  |some (b',x,r)=>bif b'.le b then(match w6 t b n r with|some xs=>some (x::xs)|none=>none)else none
  |none=>none
theorem wA{t:Ty}{b:Bd}: ∀{n:Nat}{l:List WA}{xs:List t.den},w6 t b n l=some xs→AImps (WAs.exp l) (allA t xs)∧xs.length=n∧(WAs.ok l→ ∀x∈xs,Bnd t b x)
 |0,[],xs,h=>by simp[w6]at h;subst h;exact⟨trivial,rfl,fun _ x hx=>by simp at hx⟩
 |0,_::_,_,h=>by simp[w6]at h
 |n+1,l,xs,h=>by
  simp only[w6]at h
  cases hr:reify t l with
  |none=>rw[hr]at h;cases h
  |some q=>
   obtain⟨b',x,r⟩:=q
   rw[hr]at h;simp only at h
   cases hb:b'.le b with
   |false=>rw[hb]at h;cases h
   |true=>
    rw[hb]at h;simp only[cond_true]at h
    cases hx:w6 t b n r with
    |none=>rw[hx]at h;cases h
    |some ys=>
     rw[hx]at h;simp at h;subst h
     obtain⟨m,e1,i1,o1⟩:=jt hr
     obtain⟨i2,l2,o2⟩:=wA hx
     refine⟨by rw[e1];exact vR i1 i2,by simp[l2],fun hk y hy=>?_⟩
     rcases List.mem_cons.1 hy with rfl|hy
     ·exact Bnd.mono hb (o1 hk).1
     ·exact o2 (o1 hk).2 y hy
theorem NE{t ty:TypeId}{s b len:Nat}{z:Array Value}{zs cs:List Atom}{cells:List CAtom}{parts:Array (Nat×Operand)}{vs:List Cmp}
  (hb:elB P t=some (s,b))(hz:elZ P t=some z)(hbig:Nat.ble (len*s) 16777216=true)(hzs:jy (CI (len*s) z)=some zs)(hl:parts.size=vs.length)
  (hf:afill (wY s) zs (List.zip (parts.toList.map (·.1)) vs)=some cs)(hc:AImps cs (cells.map CAtom.up)):
  OpOk P (.buildSlice t len parts) ty (List.zip (parts.toList.map (·.2)) (vs.map AV.c)) [] (.c (.one (.abs (flP cells len)))) []:=by
 intro dst pos after guard a w H β K Q hins _ _ hon hK
 obtain⟨T,arr,hrun,hsat⟩:=wr (a:=a) (β:=β) (H:=H) hb hz hbig hzs hl hf hins w
 unfold Oper.wp
 have:(execOp a.eval ⟨dst,.buildSlice t len parts,ty,pos,after,guard⟩).run P w= .ok (.value (.slice (some ⟨w.heap.size,0,none⟩) len len)) (w.alloc (.cells arr T)):=by
  simp only[execOp,Sem.run_bind,hrun,Result.andThen_ok,Sem.run_pure]
 rw[this]
 refine hK _ _ _ β (by simpa[kwOf,knOf,kdOf]using Step.new (β:=β) arr T hon) ?_ (fun k b hb=>by simp at hb)
 refine⟨_,_,rfl,Nat.le_refl _,.inr ⟨w.heap.size,0,arr,rfl,Heap.set_at _ _ _,?_⟩⟩
 have h1:=CSats.of_up (AImps.sats hc hsat)
 have h2:=CSats.length h1
 rw[List.drop_zero,List.take_of_length_le (by omega)]
 exact h1.mono (Heap.set_le _ (hon.none (Nat.le_refl _)))
def Bg(P:Program)(ts:TypeId)(len:Nat)(parts:Array (Nat×Operand))(h:MH)(d:Nat)(vs:List WV):HR:=
 match elB P ts,elZ P ts with
 |some (s,_),some z=>match vT (CI (len*s) z)with
  |some zs=>match wcs vs with
   |some cs=>bif Nat.ble (len*s) 16777216&&Nat.beq parts.size cs.length then(match wfill (wY s) zs (List.zip (parts.toList.map (·.1)) cs)with
    |some r=>match h with
     | .im t b=>match w6 t b len r with
      |some xs=>bif Nat.beq s t.w then .ok [] (vL t len b xs) [] []else .bad
      |none=> .bad
     | .arr t b=>match w6 t b len r with
      |some xs=>bif Nat.beq s t.w&&(WAs.ids r).all (fun k=>!Nat.beq k d)then .ok [] (.c (.one (.ls d none len len t.w len))) [] [(d,some (.arr t b xs))]else .bad
      |none=> .bad
     | .gro t b=>match w6 t b len r with
      |some xs=>bif Nat.beq s t.w&&(WAs.ids r).all (fun k=>!Nat.beq k d)then .ok [] (.c (.one (.gs d len t.w len))) [] [(d,some (.gro t b xs))]else .bad
      |none=> .bad
     | .no=> .bad
    |none=> .bad)else .bad
   |none=> .bad
  |none=> .bad
 |_,_=> .bad
theorem IS{ts:TypeId}{len:Nat}{parts:Array (Nat×Operand)}{h:MH}{d:Nat}{vs:List WV}:HOk P (.buildSlice ts len parts) ty (parts.toList.map (·.2)) vs bl (Bg P ts len parts h d vs):=by
 unfold Bg
 split
 ·rename_i s by_ z hb hz
  split
  ·rename_i zs hzs
   split
   ·rename_i cs hcs
    cases hc:Nat.ble (len*s) 16777216&&Nat.beq parts.size cs.length with
    |false=>exact trivial
    |true=>
     simp only[Bool.and_eq_true]at hc
     simp only[cond_true]
     split
     ·rename_i r hf
      have hpre:(∀v∈vs,v.ok)→afill (wY s) (WAs.exp zs) (List.zip (parts.toList.map (·.1)) (cs.map WC.exp))=some (WAs.exp r)∧WAs.ok r∧vs=cs.map WV.c:=by
       intro hv
       have:=F3 hcs;subst this
       obtain⟨z1,z2⟩:=vr hzs
       have hvc: ∀x∈cs,x.ok:=fun x hx=>hv (.c x) (List.mem_map.2 ⟨x,hx,rfl⟩)
       obtain⟨f1,f2⟩:=Cz hf z2 (fun p hp=>hvc _ (List.of_mem_zip hp).2)
       rw[Bh]at f1
       exact⟨f1,f2,rfl⟩
      have hz1:=(vr hzs).1
      have hpl:parts.size=(cs.map WC.exp).length:=by rw[List.length_map];exact Nat.eq_of_beq_eq_true hc.2
      have hvs:vs=cs.map WV.c→(List.zip (parts.toList.map (·.2)) (vs.map WV.exp))=List.zip (parts.toList.map (·.2)) ((cs.map WC.exp).map AV.c):=by
       intro e;subst e;rw[List.map_map,List.map_map];rfl
      split
      ·rename_i t b
       split
       ·rename_i xs hx
        cases hw:Nat.beq s t.w with
        |false=>exact trivial
        |true=>
         have:=Nat.eq_of_beq_eq_true hw;subst this
         intro hv _ _ kin hk _
         rw[qf hk]
         obtain⟨f1,f2,e⟩:=hpre hv
         obtain⟨i1,l1,o1⟩:=wA hx
         refine⟨?_,⟨⟨Nat.le_of_eq l1,o1 f2⟩,rfl⟩,qh⟩
         rw[hvs e,Dt,l1]
         exact NE hb hz hc.1 hz1 hpl f1 (by rw[←ju];exact i1)
       ·exact trivial
      ·rename_i t b
       split
       ·rename_i xs hx
        cases hw:Nat.beq s t.w&&(WAs.ids r).all (fun k=>!Nat.beq k d)with
        |false=>exact trivial
        |true=>
         simp only[Bool.and_eq_true]at hw
         have:=Nat.eq_of_beq_eq_true hw.1;subst this
         intro hv _ _ kin hk _
         rw[qf hk]
         obtain⟨f1,f2,e⟩:=hpre hv
         obtain⟨i1,l1,o1⟩:=wA hx
         refine⟨?_,⟨⟨Nat.le_refl _,Nat.le_refl _⟩,rfl⟩,jo (o1 f2)⟩
         rw[hvs e]
         show OpOk P _ _ _ _ (.c (.one (.sl d ((none:Option Nat).getD 0*t.w) len len))) _
         rw[show(none:Option Nat).getD 0*t.w=0 by simp]
         exact(Q1 hb hz hc.1 hz1 hpl f1 (Gs hw.2)).weak (fun _ _ _ h=>h) (Bj (v9 i1))
       ·exact trivial
      ·rename_i t b
       split
       ·rename_i xs hx
        cases hw:Nat.beq s t.w&&(WAs.ids r).all (fun k=>!Nat.beq k d)with
        |false=>exact trivial
        |true=>
         simp only[Bool.and_eq_true]at hw
         have:=Nat.eq_of_beq_eq_true hw.1;subst this
         intro hv _ _ kin hk _
         rw[qf hk]
         obtain⟨f1,f2,e⟩:=hpre hv
         obtain⟨i1,l1,o1⟩:=wA hx
         refine⟨?_,⟨Nat.le_refl _,rfl⟩,jo (o1 f2)⟩
         rw[hvs e]
         exact(Q0 hb hz hc.1 hz1 hpl f1 (Gs hw.2) (by rw[w9 i1,jw,l1])).weak (fun _ _ _ h=>h) (Bj (CH i1))
       ·exact trivial
      ·exact trivial
     ·exact trivial
   ·exact trivial
  ·exact trivial
 ·exact trivial
theorem OpOk.nilgs{op:Op}{x y:Operand}{k d m s:Nat}{Y:AV}{B:Blk}(hkd:d≠k)(hY:Y.men k=false)(hB:B.men k=false)
  (h:OpOk P op ty [(x,.c (.one (.gs k 0))),(y,Y)] [(k,.grow s [])] (.c (.one (.gs d m))) [(k,none),(d,some B)]):
  OpOk P op ty [(x,.c (.one (.val (.slice none 0 0)))),(y,Y)] [] (.c (.one (.gs d m))) [(d,some B)]:=by
 intro dst pos after guard a w H β K Q hins _ _ hon hK
 have hx:=(hins _ List.mem_cons_self).1
 have hy:=hins (y,Y) (by simp)
 simp only at hx hy
 have hkd2:Nat.beq k d=false:=beqF (fun h=>hkd h.symm)
 have hdk2:Nat.beq d k=false:=beqF hkd
 refine h dst pos after guard a w H (β.set k none) K Q ?_ ?_ ?_ hon ?_
 ·intro p hp
  simp only[List.mem_cons,List.not_mem_nil,or_false]at hp
  rcases hp with rfl|rfl
  ·exact .inl ⟨Bm.set_same _ _ _,rfl,hx⟩
  ·refine AV.sat_congr (Heap.Le.refl _) (fun q hq=>Bm.set_other _ _ fun e=>?_) hy
   subst e;rw[hY]at hq;cases hq
 ·intro p hp
  simp only[List.mem_singleton]at hp;subst hp
  refine⟨.inl ⟨Bm.set_same _ _ _,rfl⟩,fun b c hb=>?_⟩
  rw[Bm.set_same]at hb;cases hb
 ·intro p hp p' hp' hne
  simp only[List.mem_singleton]at hp hp';subst hp hp';exact absurd rfl hne
 ·intro v w' H' β' hs hR hL
  have hkw:kwOf [(k,Blk.grow s [])] [(k,(none:Option Blk)),(d,some B)]=[k]:=by simp[kwOf,look,hkd2]
  have hkn:knOf [(k,Blk.grow s [])] [(k,(none:Option Blk)),(d,some B)]=[d]:=by simp[knOf,look,hkd2]
  have hkdd:kdOf [(k,(none:Option Blk)),(d,some B)]=[k]:=by simp[kdOf]
  rw[hkw,hkn,hkdd]at hs
  have hbd:(β'.set k (β k)) d=β' d:=Bm.set_other _ _ hkd
  refine hK v w' H' (β'.set k (β k)) ?_ ?_ ?_
  ·have e1:kwOf ([]:List (Nat×Blk)) [(d,some B)]=[]:=by simp[kwOf,look]
   have e2:knOf ([]:List (Nat×Blk)) [(d,some B)]=[d]:=by simp[knOf,look]
   have e3:kdOf [(d,some B)]=[]:=by simp[kdOf]
   rw[e1,e2,e3]
   refine⟨hs.os,hs.tape,hs.output,hs.size,fun b hb _=>hs.keep b hb fun q hq c hc=>?_,hs.hle,hs.hnew,hs.hon,fun q hq=>?_,fun q hq b c hb=>?_,fun q hq q' hq' hne=>?_⟩
   ·simp only[List.mem_singleton]at hq;subst hq;rw[Bm.set_same]at hc;cases hc
   ·by_cases e:q=k
    ·subst e;exact Bm.set_same _ _ _
    ·rw[Bm.set_other _ _ e,hs.beta q hq,Bm.set_other _ _ e]
   ·simp only[List.mem_singleton]at hq;subst hq
    rw[hbd]at hb
    obtain⟨f1,f2⟩:=hs.fresh _ (by simp) b c hb
    refine⟨f1,.inl ?_⟩
    rcases f2 with f2|⟨k0,hk0,c0,f2⟩
    ·exact f2
    ·simp only[List.mem_singleton]at hk0;subst hk0;rw[Bm.set_same]at f2;cases f2
   ·simp only[List.mem_singleton]at hq hq';subst hq hq';exact absurd rfl hne
  ·refine AV.sat_congr (Heap.Le.refl _) (fun q hq=>Bm.set_other _ _ fun e=>?_) hR
   subst e
   simp only[AV.men,Cmp.men,Atom.men,beq_iff_eq]at hq
   exact hkd hq
  ·intro q b hqb
   simp only[List.mem_singleton,Prod.mk.injEq,Option.some.injEq]at hqb
   obtain⟨rfl,rfl⟩:=hqb
   refine Blk.rep_congr (hL _ _ (by simp)) (Heap.Le.refl _) (fun q hq=>Bm.set_other _ _ fun e=>?_) (fun _ _ _=>rfl)
   subst e
   rcases hq with e|e
   ·exact hkd e.symm
   ·rw[hB]at e;cases e
def GY (P : Program) (ts tx : TypeId) (h : MH) (bl : Nat → Option WB) (d : Nat) : WV → WV → HR
  | .c (.one a), .c (.one y) => match asL y, elB P ts with
    | some ⟨t, by_, xs⟩, some (_, bytes) => bif zOk P ts t && isSl P tx && Nat.blt 0 bytes then (match a with
      | .gs k n w nb => match bl k with
        | some (.gro t' b l) => bif Nat.beq w t.w && Nat.ble ((2 * (nb + by_.len) + 1000) * bytes) 281474976710656 && !Nat.beq d k then (match t'.beq t with
            | true => if h : t.beq t' = true then
              (bif by_.e.le b then .ok [n = l.length] (.c (.one (.gs d (n + xs.length) w (nb + by_.len)))) [k] [(k, none), (d, some (.gro t' b (l ++ j0 (t := .sl t) (t' := .sl t') h xs)))]
               else .ok [n = l.length, ∀ x ∈ xs, Bnd t b x] (.c (.one (.gs d (n + xs.length) w (nb + by_.len)))) [k] [(k, none), (d, some (.gro t' b (l ++ j0 (t := .sl t) (t' := .sl t') h xs)))]) else .bad
            | false => .bad) else .bad
        | _ => .bad
      | a => bif jB a && Nat.ble ((2 * (0 + by_.len) + 1000) * bytes) 281474976710656 then (match h with
          | .gro t' b => bif t'.beq t && by_.e.le b then .ok [] (.c (.one (.gs d xs.length t.w by_.len))) [] [(d, some (.gro t b xs))] else .bad
          | _ => .bad) else .bad) else .bad
    | _, _ => .bad
  | _, _ => .bad
theorem Ho{t:TypeId}(h:isSl P t=true): ∃e,P.underlying t=some (.slice e):=by
 unfold isSl at h
 split at h
 ·rename_i e h1;exact⟨e,h1⟩
 ·cases h
theorem Q7{ts tx:TypeId}{h:MH}{d:Nat}{x y:Operand}{p v:WV}:
  HOk P (.call {callee:= .builtin .append,args:= #[x,y],argTypes:= #[ts,tx]}) ty [x,y] [p,v] bl (GY P ts tx h bl d p v):=by
 unfold GY
 split
 ·rename_i a q
  split
  ·rename_i t by_ xs s0 bytes hy hb
   obtain⟨ey,oy⟩:=zG hy
   cases hc:zOk P ts t&&isSl P tx&&Nat.blt 0 bytes with
   |false=>exact trivial
   |true=>
    simp only[Bool.and_eq_true]at hc
    simp only[cond_true]
    obtain⟨⟨hz,htx⟩,hby⟩:=hc
    have hby:0<bytes:=by simpa using hby
    obtain⟨z,b0,e1,e2,e3,e4,e5⟩:=Ax hz
    rw[e2]at hb;cases hb
    obtain⟨ex,hex⟩:=Ho htx
    split
    ·rename_i k n w nb
     split
     ·rename_i t' b l hl
      cases hd:Nat.beq w t.w&&Nat.ble ((2*(nb+by_.len)+1000)*bytes) 281474976710656&&!Nat.beq d k with
      |false=>exact trivial
      |true=>
       simp only[Bool.and_eq_true]at hd
       simp only[cond_true]
       obtain⟨⟨hw,hbig⟩,hdk⟩:=hd
       have:=Nat.eq_of_beq_eq_true hw;subst this
       have hbig:=Nat.le_of_ble_eq_true hbig
       have hdk:d≠k:=fun e=>by subst e;simp at hdk
       split
       ·split
        ·rename_i hbeq htt
         have:=Ty.beq_eq htt;subst this
         have main:(∀u∈[WV.c (.one (.gs k n t.w nb)),.c (.one q)],u.ok)→(∀k b,bl k=some b→b.ok)→n=l.length→(∀x∈xs,Bnd t b x)→ ∀kin:List (Nat×WB),kin.map (·.1)=[k]→(∀p∈kin,bl p.1=some p.2)→
           OpOk P (.call {callee:= .builtin .append,args:= #[x,y],argTypes:= #[ts,tx]}) ty (List.zip [x,y] ([WV.c (.one (.gs k n t.w nb)),.c (.one q)].map WV.exp)) (kinE kin) (WV.c (.one (.gs d (n+xs.length) t.w (nb+by_.len)))).exp (LwE [(k,none),(d,some (.gro t b (l++j0 (t:= .sl t) (t':= .sl t) htt xs)))])∧(WV.c (.one (.gs d (n+xs.length) t.w (nb+by_.len)))).ok∧LwOk [(k,none),(d,some (.gro t b (l++j0 (t:= .sl t) (t':= .sl t) htt xs)))]:=by
          intro hv hbl hn hxs kin hk hkb
          rw[jn hk hkb hl]
          have hcast:j0 (t:= .sl t) (t':= .sl t) htt xs=xs:=rfl
          rw[hcast]
          have hnb:n≤nb:=(hv _ List.mem_cons_self).1
          have hyb:=Bnd.sl (oy (hv (.c (.one q)) (by simp)).1)
          have hlb: ∀x∈l,Bnd t b x:=hbl k _ hl
          refine⟨?_,⟨show n+xs.length≤nb+by_.len by have:=hyb.1;omega,rfl⟩,?_⟩
          ·show OpOk P _ _ [(x,_),(y,(WV.c (.one q)).exp)] [(k,.grow t.w (allA t l))] (.c (.one (.gs d (n+xs.length)))) [(k,none),(d,some (.grow t.w (allA t (l++xs))))]
           rw[wk ey,wc,ju t xs]
           refine KQ e2 e1 hex e5 hby e4 (qZ _ _) (by rw[jw,hn]) ?_ hdk (vE _ _ _)
           refine Nat.le_trans (Nat.mul_le_mul_right _ ?_) hbig
           have:=hyb.1;omega
          ·intro k' b' hm
           simp only[List.mem_cons,Prod.mk.injEq,reduceCtorEq,and_false,Option.some.injEq,List.not_mem_nil,or_false,false_or]at hm
           obtain⟨_,rfl⟩:=hm
           intro u hu
           rcases List.mem_append.1 hu with hu|hu
           ·exact hlb u hu
           ·exact hxs u hu
         cases hle:by_.e.le b with
         |true=>
          simp only[cond_true]
          exact fun hv hbl hvc kin hk hkb=>main hv hbl (hvc _ List.mem_cons_self) (fun u hu=>Bnd.mono hle ((Bnd.sl (oy (hv (.c (.one q)) (by simp)).1)).2 u hu)) kin hk hkb
         |false=>
          simp only[cond_false]
          exact fun hv hbl hvc kin hk hkb=>main hv hbl (hvc _ List.mem_cons_self) (hvc (∀x∈xs,Bnd t b x) (by simp)) kin hk hkb
        ·exact trivial
       ·exact trivial
     ·exact trivial
    ·cases hd:jB a&&Nat.ble ((2*(0+by_.len)+1000)*bytes) 281474976710656 with
     |false=>exact trivial
     |true=>
      simp only[Bool.and_eq_true]at hd
      have:=vk hd.1;subst this
      have hbig:=Nat.le_of_ble_eq_true hd.2
      simp only[cond_true]
      split
      ·rename_i t' b
       cases htb:t'.beq t&&by_.e.le b with
       |false=>exact trivial
       |true=>
        simp only[Bool.and_eq_true]at htb
        intro hv hbl hvc kin hk hkb
        rw[qf hk]
        have hyb:=Bnd.sl (oy (hv (.c (.one q)) (by simp)).1)
        refine⟨?_,⟨hyb.1,rfl⟩,jo fun u hu=>Bnd.mono htb.2 (hyb.2 u hu)⟩
        show OpOk P _ _ [(x,.c (.one (.val (.slice none 0 0)))),(y,(WV.c (.one q)).exp)] [] (.c (.one (.gs d xs.length))) [(d,some (.grow t.w (allA t xs)))]
        rw[wk ey]
        refine OpOk.nilgs (k:=d+1) (s:=t.w) (by omega) rfl (vE _ _ _) ?_
        have:=KQ (P:=P) (ty:=ty) (x:=x) (y:=y) (k:=d+1) (d:=d) (n:=0) (m:=xs.length) (cs:=[]) (cells:=allC t xs) e2 e1 hex e5 hby e4 (qZ _ _) (by simp) (Nat.le_trans (Nat.mul_le_mul_right _ (by have:=hyb.1;omega)) hbig) (by omega) rfl
        rw[Nat.zero_add,List.nil_append,←ju]at this
        exact this
      ·exact trivial
  ·exact trivial
 ·exact trivial
end
end
end Go.Proofs.YtchgnllhbcadpaaGreat.Sx
