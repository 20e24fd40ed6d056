/-
Own laws, part 1. No condition.
-/
import Derived.Orders
import Derived.Deep.LoopGhost
import Derived.OrdersIn
import Derived.RangeFuncCalls
import Derived.Laws.Cells
import Derived.Laws.World
import Derived.LoopN
import Derived.WideKeyEntry
import Derived.WideKeyArr
import Derived.RangeFuncFrom
namespace Go.Proofs.YtajflbhmdcgkmaaGreat.Sx
open Go Go.Proofs
set_option linter.unusedVariables false
set_option linter.unusedSimpArgs false
set_option maxRecDepth 20000
set_option maxHeartbeats 4000000
abbrev q6K:=@And.intro
abbrev q5l:=@Array.eq_empty_of_size_eq_zero
abbrev q5m:=@Bool.and_eq_true
abbrev q5n:=@Bool.false_eq_true
abbrev q5o:=@Bool.not_eq_true'
abbrev q5p:=@Int.natCast_mul
abbrev q5q:=@Int.natCast_nonneg
abbrev q5r:=@Int.toNat_natCast
abbrev q5s:=@List.append_assoc
abbrev q5t:=@List.drop_drop
abbrev q5u:=@List.drop_of_length_le
abbrev q5v:=@List.drop_zero
abbrev q5w:=@List.eq_nil_of_length_eq_zero
abbrev q5x:=@List.flatMap_cons
abbrev q5y:=@List.getD_eq_getElem?_getD
abbrev q5z:=@List.getElem?_cons_succ
abbrev q5A:=@List.getElem?_cons_zero
abbrev q5B:=@List.getElem?_drop
abbrev q5C:=@List.getElem?_eq_getElem
abbrev q5D:=@List.getElem?_eq_none
abbrev q5E:=@List.getElem?_take_of_lt
abbrev q5F:=@List.getElem?_toArray
abbrev q5G:=@List.length_append
abbrev q5H:=@List.length_cons
abbrev q5I:=@List.length_drop
abbrev q5J:=@List.length_map
abbrev q5K:=@List.length_nil
abbrev q5L:=@List.length_take
abbrev q5M:=@List.map_cons
abbrev q5N:=@List.mem_append
abbrev q5O:=@List.mem_cons
abbrev q5P:=@List.mem_cons_of_mem
abbrev q5Q:=@List.mem_cons_self
abbrev q5R:=@List.mem_filter
abbrev q5S:=@List.mem_of_getElem?
abbrev q5T:=@List.mem_of_mem_take
abbrev q5U:=@List.mem_singleton
abbrev q5V:=@List.nil_append
abbrev q5W:=@List.not_mem_nil
abbrev q5X:=@List.take_append_of_le_length
abbrev q5Y:=@List.take_length
abbrev q5Z:=@List.take_of_length_le
abbrev q60:=@List.take_succ_eq_append_getElem
abbrev q61:=@List.take_take
abbrev q62:=@Nat.add_assoc
abbrev q63:=@Nat.add_mul
abbrev q64:=@Nat.add_zero
abbrev q65:=@Nat.div_le_self
abbrev q66:=@Nat.div_lt_iff_lt_mul
abbrev q67:=@Nat.div_one
abbrev q68:=@Nat.eq_of_beq_eq_true
abbrev q69:=@Nat.eq_zero_or_pos
abbrev q6a:=@Nat.le_of_ble_eq_true
abbrev q6b:=@Nat.le_of_lt
abbrev q6c:=@Nat.le_of_lt_succ
abbrev q6d:=@Nat.le_refl
abbrev q6e:=@Nat.le_trans
abbrev q6f:=@Nat.lt_of_le_of_lt
abbrev q6g:=@Nat.lt_of_lt_of_le
abbrev q6h:=@Nat.lt_or_ge
abbrev q6i:=@Nat.min_eq_left
abbrev q6j:=@Nat.mod_eq_of_lt
abbrev q6k:=@Nat.mod_lt
abbrev q6l:=@Nat.mod_two_eq_zero_or_one
abbrev q6m:=@Nat.mul_add
abbrev q6n:=@Nat.mul_assoc
abbrev q6o:=@Nat.mul_comm
abbrev q6p:=@Nat.mul_le_mul
abbrev q6q:=@Nat.mul_le_mul_left
abbrev q6r:=@Nat.mul_le_mul_right
abbrev q6s:=@Nat.mul_pos
abbrev q6t:=@Nat.pos_of_ne_zero
abbrev q6u:=@Nat.pow_add
abbrev q6v:=@Nat.pow_le_pow_right
abbrev q6w:=@Nat.pow_pos
abbrev q6x:=@Nat.pow_succ
abbrev q6y:=@Nat.succ_mul
abbrev q6z:=@Nat.zero_add
abbrev q6A:=@Nat.zero_le
abbrev q6B:=@Nat.zero_mul
abbrev q6C:=@Option.map_none
abbrev q6D:=@Option.map_some
abbrev q6E:=@Option.some.injEq
abbrev q6F:=@Prod.mk.injEq
abbrev q6G:=@Result.andThen_ok
abbrev q6H:=@Sem.run_bind
abbrev q6I:=@Sem.run_pure
abbrev q6J:=@Eq.refl
abbrev q6L:=@Array.getElem?_eq_some_iff
abbrev q6M:=@List.getElem_mem
abbrev q6N:=@List.all_eq_true
abbrev q6O:=@List.mem_flatMap
abbrev q6P:=@Rat.le_of_lt
abbrev q6Q:=@Nat.le_max_left
abbrev q6R:=@Nat.le_max_right
abbrev q6S:=@List.length_set
abbrev q6T:=@List.mem_map
abbrev q6U:=@Nat.le_of_not_lt
abbrev q6V:=@List.mem_of_mem_drop
abbrev q6W:=@List.drop_set_of_lt
abbrev q6X:=@Rat.le_refl
def _root_.Go.Value.oneC:Value->Bool
 | .agg _| .tuple _=>false
 |_=>true
abbrev Heap:=Nat->Option (Array Value)
def Heap.Le(H H':Heap):Prop:= ∀b cs,H b=some cs->H' b=some cs
def Heap.On(H:Heap)(w:World):Prop:= ∀b cs,H b=some cs-> ∃T fz,w.heap[b]?=some (.cells cs T fz)
theorem Heap.Le.refl(H:Heap):Heap.Le H H:=λ_ _ h=>h
theorem Heap.Le.trans{a b c:Heap}(h:Heap.Le a b)(k:Heap.Le b c):Heap.Le a c:=λx cs hx=>k x cs (h x cs hx)
abbrev Bm:=Nat->Option (Nat×Nat)
structure Pred where
 p:Heap->Value->Prop
 mono: ∀{H H' v},Heap.Le H H'->p H v->p H' v
 one: ∀{H v},p H v->v.oneC=true
inductive CAtom where
 |val (v:Value)
 |abs (A:Pred)
def CAtom.sat(H:Heap):CAtom->Value->Prop
 | .val v,x=>x=v/\v.oneC=true
 | .abs A,x=>A.p H x
def CSats(H:Heap):List CAtom->List Value->Prop
 |[],[]=>True
 |a::az,v::vs=>a.sat H v/\CSats H az vs
 |_,_=>False
inductive Atom where
 |val (v:Value)
 |abs (A:Pred)
 /--a pointer into local block k -/
 |loc (k off:Nat)
 /--a slice over local block k,its capacity known -/
 |sl (k off len cap:Nat)
 /--a slice over the growing local block k -/
 |gs (k n:Nat)
 /--a part of the growing local block k,from element lo (cell off) on -/
 |so (k off lo n:Nat)
 /--a pointer into the immutable heap,to a row of cells -/
 |ptr (cells:List CAtom)
 /--the local map k -/
 |mp (k:Nat)
 /--a slice over the growing local block k,whatever its length -/
 |ks (k off lo n:Nat)
 /--a function with captured pointers -/
 |clo (f:FuncId) (ps:List (Nat×Nat))
def CAtom.up:CAtom->Atom
 | .val v=> .val v
 | .abs A=> .abs A
def LocsSat(β:Bm):List (Nat×Nat)->List Value->Prop
 |[],[]=>True
 |p::ps,v::vs=>(∃b c,β p.1=some (b,c)/\v= .pointer (some ⟨b,p.2,none⟩))/\LocsSat β ps vs
 |_,_=>False
theorem LocsSat.congr{β β':Bm}: ∀{ps:List (Nat×Nat)}{vs:List Value},(∀p∈ps,β' p.1=β p.1)->LocsSat β ps vs->LocsSat β' ps vs
 |[],[],_,_=>trivial
 |p::_,_::_,hb,hs=>⟨by rw[hb p q5Q];exact hs.1,LocsSat.congr (λq hq=>hb q (q5P _ hq)) hs.2⟩
 |[],_::_,_,hs=>hs.elim
 |_::_,[],_,hs=>hs.elim
def Atom.sat(β:Bm)(H:Heap):Atom->Value->Prop
 | .val v,x=>x=v/\v.oneC=true
 | .abs A,x=>A.p H x
 | .loc k off,x=> ∃b c,β k=some (b,c)/\x= .pointer (some ⟨b,off,none⟩)
 | .sl k off len cap,x=> ∃b c,β k=some (b,c)/\x= .slice (some ⟨b,off,none⟩) len cap
 | .gs k n,x=>(β k=none/\n=0/\x= .slice none 0 0)\/ ∃b c,β k=some (b,c)/\x= .slice (some ⟨b,0,none⟩) n c
 | .so k off lo n,x=>(n=0/\ ∃p c,x= .slice p 0 c)\/ ∃b c,β k=some (b,c)/\x= .slice (some ⟨b,off,none⟩) n (c-lo)
 | .ptr cells,x=> ∃b off arr,x= .pointer (some ⟨b,off,none⟩)/\H b=some arr/\CSats H cells ((arr.toList.drop off).take cells.length)
 | .mp k,x=> ∃b c,β k=some (b,c)/\x= .map (some b)
 | .ks k off lo n,x=> ∃b c,β k=some (b,c)/\lo+n<=c/\x= .slice (some ⟨b,off,none⟩) n (c-lo)
 | .clo f ps,x=> ∃vs:List Value,x= .func (.func f) #[] vs.toArray/\LocsSat β ps vs
def Sats(β:Bm)(H:Heap):List Atom->List Value->Prop
 |[],[]=>True
 |a::az,v::vs=>a.sat β H v/\Sats β H az vs
 |_,_=>False
inductive Cmp where
 |one (a:Atom)
 |agg (l:List Atom)
def Cmp.cells:Cmp->List Atom
 | .one a=>[a]
 | .agg l=>l
def Cmp.sat(β:Bm)(H:Heap):Cmp->Value->Prop
 | .one a,x=>a.sat β H x
 | .agg l,x=> ∃arr:Array Value,x= .agg arr/\Sats β H l arr.toList
def CmpSats(β:Bm)(H:Heap):List Cmp->List Value->Prop
 |[],[]=>True
 |a::az,v::vs=>a.sat β H v/\CmpSats β H az vs
 |_,_=>False
inductive AV where
 |c (x:Cmp)
 |tup (l:List Cmp)
def AV.sat(β:Bm)(H:Heap):AV->Value->Prop
 | .c x,v=>x.sat β H v
 | .tup l,v=> ∃arr:Array Value,v= .tuple arr/\CmpSats β H l arr.toList
inductive Blk where
 |rigid (cells:List Atom)
 |grow (es:Nat) (cells:List Atom)
 /--a map with these entries,in the order in which they came -/
 |mp (l:List (Value×Value))
 /--a map with these keys and values of these kinds -/
 |mc (l:List (Value×Cmp))
def esOf:Nat->List (Value×Value)->List MapEntry
 |_,[]=>[]
 |n,p::l=>⟨p.1,p.2,n⟩::esOf (n+1) l
def Blk.rep(β:Bm)(w:World)(H:Heap)(k:Nat):Blk->Prop
 | .rigid cs=> ∃b c arr T,β k=some (b,c)/\w.heap[b]?=some (.cells arr T (0,0))/\Sats β H cs arr.toList
 | .grow es cs=>(β k=none/\cs=[])\/
   ∃b c arr T,β k=some (b,c)/\w.heap[b]?=some (.cells arr T (0,0))/\arr.size=c*es/\cs.length<=arr.size/\Sats β H cs (arr.toList.take cs.length)
 | .mp l=> ∃b c,β k=some (b,c)/\w.heap[b]?=some (.map (esOf 0 l).toArray l.length)
 | .mc l=> ∃b c vs,β k=some (b,c)/\w.heap[b]?=some (.map (esOf 0 (List.zip (l.map (·.1)) vs)).toArray l.length)/\CmpSats β H (l.map (·.2)) vs
def Atom.men(k:Nat):Atom->Bool
 | .loc k' _| .sl k' _ _ _| .gs k' _| .so k' _ _ _| .mp k'| .ks k' _ _ _=>k'==k
 | .clo _ ps=>ps.any λp=>p.1==k
 |_=>false
def jA(k:Nat):List Atom->Bool
 |[]=>false
 |a::l=>a.men k||jA k l
def Cmp.men(k:Nat):Cmp->Bool
 | .one a=>a.men k
 | .agg l=>jA k l
def menC(k:Nat):List Cmp->Bool
 |[]=>false
 |a::l=>a.men k||menC k l
def AV.men(k:Nat):AV->Bool
 | .c x=>x.men k
 | .tup l=>menC k l
def Blk.men(k:Nat):Blk->Bool
 | .rigid cs| .grow _ cs=>jA k cs
 | .mp _=>false
 | .mc l=>menC k (l.map (·.2))
theorem CAtom.sat_mono{H H':Heap}(h:Heap.Le H H'){a:CAtom}{v:Value}(hs:a.sat H v):a.sat H' v:=by
 cases a with
 |val u=>exact hs
 |abs A=>exact A.mono h hs
theorem CSats.mono{H H':Heap}(h:Heap.Le H H'): ∀{l:List CAtom}{vs:List Value},CSats H l vs->CSats H' l vs
 |[],[],_=>trivial
 |_::_,_::_,hs=>⟨CAtom.sat_mono h hs.1,CSats.mono h hs.2⟩
 |[],_::_,hs=>hs.elim
 |_::_,[],hs=>hs.elim
theorem CSats.length{H:Heap}: ∀{l:List CAtom}{vs:List Value},CSats H l vs->l.length=vs.length
 |[],[],_=>rfl
 |_::_,_::_,hs=>by simp[CSats.length hs.2]
 |[],_::_,hs=>hs.elim
 |_::_,[],hs=>hs.elim
theorem Atom.sat_congr{β β':Bm}{H H':Heap}(h:Heap.Le H H'){a:Atom}(hb: ∀k,a.men k=true->β' k=β k){v:Value}(hs:a.sat β H v):a.sat β' H' v:=by
 cases a with
 |val u=>exact hs
 |abs A=>exact A.mono h hs
 |loc k off=>obtain⟨b,c,h1,h2⟩:=hs;exact⟨b,c,by rw[hb k (by simp[Atom.men]),h1],h2⟩
 |sl k off len cap=>obtain⟨b,c,h1,h2⟩:=hs;exact⟨b,c,by rw[hb k (by simp[Atom.men]),h1],h2⟩
 |gs k n=>
  have e:=hb k (by simp[Atom.men]);rcases hs with⟨h1,h2,h3⟩|⟨b,c,h1,h2⟩
  .exact .inl ⟨by rw[e,h1],h2,h3⟩
  .exact .inr ⟨b,c,by rw[e,h1],h2⟩
 |so k off lo n=>
  rcases hs with h|⟨b,c,h1,h2⟩
  .exact .inl h
  .exact .inr ⟨b,c,by rw[hb k (by simp[Atom.men]),h1],h2⟩
 |ptr cells=>
  obtain⟨b,off,arr,h1,h2,h3⟩:=hs;exact⟨b,off,arr,h1,h _ _ h2,CSats.mono h h3⟩
 |mp k=>obtain⟨b,c,h1,h2⟩:=hs;exact⟨b,c,by rw[hb k (by simp[Atom.men]),h1],h2⟩
 |ks k off lo n=>obtain⟨b,c,h1,h2⟩:=hs;exact⟨b,c,by rw[hb k (by simp[Atom.men]),h1],h2⟩
 |clo f ps=>obtain⟨vs,h1,h2⟩:=hs;exact⟨vs,h1,h2.congr λp hp=>hb p.1 (List.any_eq_true.2 ⟨p,hp,by simp⟩)⟩
theorem Sats.congr{β β':Bm}{H H':Heap}(h:Heap.Le H H'): ∀{l:List Atom},(∀k,jA k l=true->β' k=β k)-> ∀{vs:List Value},Sats β H l vs->Sats β' H' l vs
 |[],_,[],_=>trivial
 |_::_,hb,_::_,hs=>⟨Atom.sat_congr h (λk hk=>hb k (by simp[jA,hk])) hs.1,Sats.congr h (λk hk=>hb k (by simp[jA,hk])) hs.2⟩
 |[],_,_::_,hs=>hs.elim
 |_::_,_,[],hs=>hs.elim
theorem Sats.length{β:Bm}{H:Heap}: ∀{l:List Atom}{vs:List Value},Sats β H l vs->l.length=vs.length
 |[],[],_=>rfl
 |_::_,_::_,hs=>by simp[Sats.length hs.2]
 |[],_::_,hs=>hs.elim
 |_::_,[],hs=>hs.elim
theorem Cmp.sat_congr{β β':Bm}{H H':Heap}(h:Heap.Le H H'){a:Cmp}(hb: ∀k,a.men k=true->β' k=β k){v:Value}(hs:a.sat β H v):a.sat β' H' v:=by
 cases a with
 |one a=>exact Atom.sat_congr h hb hs
 |agg l=>obtain⟨arr,h1,h2⟩:=hs;exact⟨arr,h1,Sats.congr h hb h2⟩
theorem CmpSats.congr{β β':Bm}{H H':Heap}(h:Heap.Le H H'): ∀{l:List Cmp},(∀k,menC k l=true->β' k=β k)-> ∀{vs:List Value},CmpSats β H l vs->CmpSats β' H' l vs
 |[],_,[],_=>trivial
 |_::_,hb,_::_,hs=>⟨Cmp.sat_congr h (λk hk=>hb k (by simp[menC,hk])) hs.1,CmpSats.congr h (λk hk=>hb k (by simp[menC,hk])) hs.2⟩
 |[],_,_::_,hs=>hs.elim
 |_::_,_,[],hs=>hs.elim
theorem AV.sat_congr{β β':Bm}{H H':Heap}(h:Heap.Le H H'){a:AV}(hb: ∀k,a.men k=true->β' k=β k){v:Value}(hs:a.sat β H v):a.sat β' H' v:=by
 cases a with
 |c a=>exact Cmp.sat_congr h hb hs
 |tup l=>obtain⟨arr,h1,h2⟩:=hs;exact⟨arr,h1,CmpSats.congr h hb h2⟩
theorem Atom.sat_one{β:Bm}{H:Heap}{a:Atom}{v:Value}(hs:a.sat β H v):v.oneC=true:=by
 cases a with
 |val u=>obtain⟨rfl,h⟩:=hs;exact h
 |abs A=>exact A.one hs
 |loc k off=>obtain⟨b,c,h1,rfl⟩:=hs;rfl
 |sl k off len cap=>obtain⟨b,c,h1,rfl⟩:=hs;rfl
 |gs k n=>rcases hs with⟨_,_,rfl⟩|⟨b,c,_,rfl⟩<;>rfl
 |so k off lo n=>rcases hs with⟨_,p,c,rfl⟩|⟨b,c,h1,rfl⟩<;>rfl
 |ptr cells=>obtain⟨b,off,arr,rfl,_⟩:=hs;rfl
 |mp k=>obtain⟨b,c,h1,rfl⟩:=hs;rfl
 |ks k off lo n=>obtain⟨b,c,h1,_,rfl⟩:=hs;rfl
 |clo f ps=>obtain⟨vs,rfl,_⟩:=hs;rfl
theorem Value.cells_one{v:Value}(h:v.oneC=true):v.cells= #[v]:=by
 cases v<;>first|rfl|(simp[Value.oneC]at h)
theorem Cmp.sat_cells{β:Bm}{H:Heap}{x:Cmp}{v:Value}(hs:x.sat β H v):Sats β H x.cells v.cells.toList:=by
 cases x with
 |one a=>
  rw[Value.cells_one (Atom.sat_one hs)];exact⟨hs,trivial⟩
 |agg l=>obtain⟨arr,rfl,h⟩:=hs;exact h
structure Step (w:World) (H:Heap) (β:Bm) (kw kn kd:List Nat) (w':World) (H':Heap) (β':Bm):Prop where
 os:w'.os=w.os
 tape:w'.tape=w.tape
 output:w'.output=w.output
 size:w.heap.size<=w'.heap.size
 keep: ∀b,b<w.heap.size->(∀k∈kw,∀c,β k≠some (b,c))->w'.heap[b]?=w.heap[b]?
 hle:Heap.Le H H'
 hnew: ∀b,H' b≠none->H b≠none\/w.heap.size<=b
 hon:Heap.On H' w'
 beta: ∀k,k∉kn->β' k=β k
 fresh: ∀k∈kn,∀b c,β' k=some (b,c)->H' b=none/\(w.heap.size<=b\/ ∃k0∈kd,∃c0,β k0=some (b,c0))
 ninj: ∀k∈kn,∀k'∈kn,k≠k'-> ∀b c c',β' k=some (b,c)->β' k'≠some (b,c')
theorem Step.refl{w:World}{H:Heap}{β:Bm}(h:Heap.On H w):Step w H β [] [] [] w H β:=
 ⟨rfl,rfl,rfl,q6d _,λ_ _ _=>rfl,Heap.Le.refl _,λb hb=> .inl hb,h,λ_ _=>rfl,λk hk=>by simp at hk,λk hk=>by simp at hk⟩
inductive XV where
 |av (a:AV)
 |bl (b:Blk)
def XV.men(k:Nat):XV->Bool
 | .av a=>a.men k
 | .bl b=>b.men k
abbrev FS:=Nat->Option XV
structure Env where
 w0:World
 H0:Heap
 β0:Bm
 Ks:List Nat
 n:Nat
 hKs: ∀k∈Ks,100000<=k
 /--the deferred calls (marks of ranges over functions) that stand all the while -/
 dfs:List Deferred:=[]
structure RepF (E:Env) (σ:FS) (a:Act) (w:World) (H:Heap) (β:Bm):Prop where
 defers:a.defers=E.dfs
 size:a.tmps.size=E.n
 slot: ∀t av,σ (2*t)=some (.av av)-> ∃v,a.tmps[t]?=some v/\av.sat β H v
 blk: ∀k b,σ (2*k+1)=some (.bl b)->b.rep β w H k
 own: ∀k x b c,σ (2*k+1)=some (.bl x)->β k=some (b,c)->H b=none/\b<w.heap.size/\(E.w0.heap.size<=b\/ ∃k0∈E.Ks,∃c0,E.β0 k0=some (b,c0))
 inj: ∀k k' x x' b c c',σ (2*k+1)=some (.bl x)->σ (2*k'+1)=some (.bl x')->k≠k'->β k=some (b,c)->β k'≠some (b,c')
 bor: ∀k∈E.Ks,β k=E.β0 k
 os:w.os=E.w0.os
 tape:w.tape=E.w0.tape
 output:w.output=E.w0.output
 wsize:E.w0.heap.size<=w.heap.size
 frame: ∀b,b<E.w0.heap.size->(∀k∈E.Ks,∀c,E.β0 k≠some (b,c))->w.heap[b]?=E.w0.heap[b]?
 hle:Heap.Le E.H0 H
 hnew: ∀b,H b≠none->E.H0 b≠none\/E.w0.heap.size<=b
 hon:Heap.On H w
abbrev Wr:=List (Nat×Option XV)
def look{α:Type}(l:List (Nat×α))(t:Nat):Option α:=
 match l with
 |[]=>none
 |(k,v)::r=>bif Nat.beq k t then some v else look r t
def FS.upd(σ:FS)(W:Wr):FS:=λℓ=>match look W ℓ with|some v=>v|none=>σ ℓ
def kwOf(kin:List (Nat×Blk))(Lw:List (Nat×Option Blk)):List Nat:=(Lw.map (·.1)).filter λk=>(look kin k).isSome
def qX(kin:List (Nat×Blk))(Lw:List (Nat×Option Blk)):List Nat:=((Lw.filter (·.2.isSome)).map (·.1)).filter λk=>(look kin k).isNone
def vg(Lw:List (Nat×Option Blk)):List Nat:=(Lw.filter (·.2.isNone)).map (·.1)
def Wof(dst:Option Tmp)(R:AV)(Lw:List (Nat×Option Blk)):Wr:=
 (match dst with|some d=>[(2*d,some (.av R))]|none=>[])++Lw.map λp=>(2*p.1+1,p.2.map .bl)
theorem jm{a b:Nat}(h:a≠b):Nat.beq a b=false:=by
 cases hq:Nat.beq a b with
 |false=>rfl
 |true=>exact absurd (q68 hq) h
theorem qR{α:Type}{l:List (Nat×α)}{t:Nat}{v:α}(h:look l t=some v):(t,v)∈l:=by
 induction l with
 |nil=>simp[look]at h
 |cons p r ih=>
  obtain⟨k,u⟩:=p;simp only[look]at h;by_cases e:k=t
  .subst e;simp at h;subst h;exact q5Q
  .have:Nat.beq k t=false:=jm e
   rw[this]at h;exact q5P _ (ih h)
theorem jX{α:Type}{l:List (Nat×α)}{t:Nat}:look l t=none↔ ∀p∈l,p.1≠t:=by
 induction l with
 |nil=>simp[look]
 |cons p r ih=>
  obtain⟨k,u⟩:=p;simp only[look];by_cases e:k=t
  .subst e;simp
  .have:Nat.beq k t=false:=jm e
   rw[this];simp[ih,e]
theorem vM{α:Type}{l l':List (Nat×α)}{t:Nat}:look (l++l') t=(match look l t with|some v=>some v|none=>look l' t):=by
 induction l with
 |nil=>simp[look]
 |cons p r ih=>
  obtain⟨k,u⟩:=p;simp only[List.cons_append,look];by_cases e:k=t
  .subst e;simp
  .have:Nat.beq k t=false:=jm e
   rw[this];simp[ih]
theorem wT{dst:Option Tmp}{R:AV}{Lw:List (Nat×Option Blk)}{t:Nat}:
  look (Wof dst R Lw) (2*t)=if dst=some t then some (some (.av R))else none:=by
 unfold Wof;rw[vM]
 have h2:look (Lw.map λp=>(2*p.1+1,p.2.map XV.bl)) (2*t)=none:=by
  rw[jX];intro p hp
  simp only[q6T]at hp;obtain⟨q,_,rfl⟩:=hp;simp;omega
 rw[h2]
 cases dst with
 |none=>simp[look]
 |some d=>
  by_cases e:d=t
  .subst e;simp[look]
  .have:Nat.beq (2*d) (2*t)=false:=jm λh=>e (Nat.eq_of_mul_eq_mul_left (by decide) h)
   simp[look,this,e]
theorem Ad{dst:Option Tmp}{R:AV}{Lw:List (Nat×Option Blk)}{k:Nat}:
  look (Wof dst R Lw) (2*k+1)=(look Lw k).map (·.map .bl):=by
 unfold Wof;rw[vM]
 have h1:look (match dst with|some d=>[(2*d,some (XV.av R))]|none=>[]) (2*k+1)=none:=by
  rw[jX];intro p hp
  cases dst with
  |none=>simp at hp
  |some d=>simp at hp;subst hp;simp;omega
 rw[h1];simp only
 induction Lw with
 |nil=>simp[look]
 |cons p r ih=>
  obtain⟨q,b⟩:=p;simp only[q5M,look];by_cases e:q=k
  .subst e;simp
  .have h1:Nat.beq q k=false:=jm e
   have h2:Nat.beq (2*q+1) (2*k+1)=false:=jm (by omega);rw[h1,h2];simpa using ih
def OpOk(P:Program)(op:Op)(ty:TypeId)(ins:List (Operand×AV))(kin:List (Nat×Blk))(R:AV)(Lw:List (Nat×Option Blk)):Prop:=
 ∀(dst:Option Tmp)(pos:String)(after:Array Edge)(guard:Option (Nat×Bool))(a:Act)(w:World)(H:Heap)(β:Bm)(K:Act->World->Prop)(Q:Exit->Act->World->Prop),
  (∀p∈ins,p.2.sat β H (a.eval p.1))->
  (∀p∈kin,p.2.rep β w H p.1/\ ∀b c,β p.1=some (b,c)->H b=none/\b<w.heap.size)->
  (∀p∈kin,∀p'∈kin,p.1≠p'.1-> ∀b c c',β p.1=some (b,c)->β p'.1≠some (b,c'))->
  Heap.On H w->
  (∀v w' H' β',Step w H β (kwOf kin Lw) (qX kin Lw) (vg Lw) w' H' β'->R.sat β' H' v->(∀k b,(k,some b)∈Lw->b.rep β' w' H' k)->K (a.put dst v) w')->
  Oper.wp P ⟨dst,op,ty,pos,after,guard⟩ a w K Q
theorem Act.put_size(a:Act)(dst:Option Tmp)(v:Value):(a.put dst v).tmps.size=a.tmps.size:=by
 cases dst<;>simp[Act.put]
theorem Blk.rep_congr{β β':Bm}{w w':World}{H H':Heap}{k:Nat}{x:Blk}(h:x.rep β w H k)(hle:Heap.Le H H')
  (hb: ∀k',(k'=k\/x.men k'=true)->β' k'=β k')(hw: ∀b c,β k=some (b,c)->w'.heap[b]?=w.heap[b]?):x.rep β' w' H' k:=by
 cases x with
 |rigid cs=>
  obtain⟨b,c,arr,T,h1,h2,h3⟩:=h;exact⟨b,c,arr,T,by rw[hb k (.inl rfl),h1],by rw[hw b c h1,h2],Sats.congr hle (λk' hk=>hb k' (.inr hk)) h3⟩
 |grow es cs=>
  rcases h with⟨h1,h2⟩|⟨b,c,arr,T,h1,h2,h3,h4,h5⟩
  .exact .inl ⟨by rw[hb k (.inl rfl),h1],h2⟩
  .exact .inr ⟨b,c,arr,T,by rw[hb k (.inl rfl),h1],by rw[hw b c h1,h2],h3,h4,Sats.congr hle (λk' hk=>hb k' (.inr hk)) h5⟩
 |mp l=>obtain⟨b,c,h1,h2⟩:=h;exact⟨b,c,by rw[hb k (.inl rfl),h1],by rw[hw b c h1,h2]⟩
 |mc l=>obtain⟨b,c,vs,h1,h2,h3⟩:=h;exact⟨b,c,vs,by rw[hb k (.inl rfl),h1],by rw[hw b c h1,h2],CmpSats.congr hle (λk' hk=>hb k' (.inr hk)) h3⟩
theorem Blk.rep_lt{β:Bm}{w:World}{H:Heap}{k:Nat}{x:Blk}(h:x.rep β w H k){b c:Nat}(hb:β k=some (b,c)):b<w.heap.size:=by
 have key: ∀b'(o:Obj),w.heap[b']?=some o->b'<w.heap.size:=by
  intro b' o h;exact(q6L.1 h).1
 cases x with
 |rigid cs=>
  obtain⟨b',c',arr,T,h1,h2,h3⟩:=h;rw[hb]at h1;cases h1;exact key _ _ h2
 |grow es cs=>
  rcases h with⟨h1,h2⟩|⟨b',c',arr,T,h1,h2,_⟩
  .rw[hb]at h1;cases h1
  .rw[hb]at h1;cases h1;exact key _ _ h2
 |mp l=>obtain⟨b',c',h1,h2⟩:=h;rw[hb]at h1;cases h1;exact key _ _ h2
 |mc l=>obtain⟨b',c',vs,h1,h2,_⟩:=h;rw[hb]at h1;cases h1;exact key _ _ h2
theorem Env.notKs(E:Env){k:Nat}(h:k<100000):k∉E.Ks:=λhk=>Nat.not_lt.2 (E.hKs k hk) h
theorem RepF.step{E:Env}{σ:FS}{a:Act}{w:World}{H:Heap}{β:Bm}(h:RepF E σ a w H β)
  {kin:List (Nat×Blk)}{Lw:List (Nat×Option Blk)}{dst:Option Tmp}{R:AV}{v:Value}{w':World}{H':Heap}{β':Bm}
  (hs:Step w H β (kwOf kin Lw) (qX kin Lw) (vg Lw) w' H' β')(hR:R.sat β' H' v)(hL: ∀k b,(k,some b)∈Lw->b.rep β' w' H' k)
  (hkin: ∀p∈kin,σ (2*p.1+1)=some (.bl p.2))
  (hkd: ∀k∈vg Lw,(look kin k).isSome=true/\look Lw k=some none)
  (hmen: ∀k∈qX kin Lw,k∉E.Ks/\ ∀ℓ x,σ ℓ=some x->look (Wof dst R Lw) ℓ=none->x.men k=false)
  (hdst: ∀d,dst=some d->d<E.n):
  RepF E (σ.upd (Wof dst R Lw)) (a.put dst v) w' H' β':=by
 have hin: ∀k,(look kin k).isSome=true-> ∃x,σ (2*k+1)=some (.bl x):=by
  intro k hk;obtain⟨x,hx⟩:=Option.isSome_iff_exists.1 hk;exact⟨x,hkin _ (qR hx)⟩
 have hkw: ∀k∈kwOf kin Lw,∃x,σ (2*k+1)=some (.bl x):=by
  intro k hk;simp only[kwOf,q5R]at hk;exact hin k hk.2
 have hkwLw: ∀k∈kwOf kin Lw,look Lw k≠none:=by
  intro k hk hn;simp only[kwOf,q5R,q6T]at hk;obtain⟨⟨p,hp,rfl⟩,_⟩:=hk;exact(jX.1 hn) p hp rfl
 have hknLw: ∀k∈qX kin Lw,look Lw k≠none:=by
  intro k hk hn;simp only[qX,q5R,q6T]at hk;obtain⟨⟨p,⟨hp,_⟩,rfl⟩,_⟩:=hk;exact(jX.1 hn) p hp rfl
 have hbeta: ∀ℓ x,σ ℓ=some x->look (Wof dst R Lw) ℓ=none-> ∀k,x.men k=true->β' k=β k:=by
  intro ℓ x hx hl k hk;refine hs.beta k λhn=>?_
  rw[(hmen k hn).2 ℓ x hx hl]at hk;cases hk
 --a block of the new state:either of the old one,unwritten;or of the old one,written;or new
 have hnewblk: ∀k x,(σ.upd (Wof dst R Lw)) (2*k+1)=some (.bl x)->
   (look Lw k=none/\σ (2*k+1)=some (.bl x))\/(look Lw k=some (some x)):=by
  intro k x hx;simp only[FS.upd,Ad]at hx
  cases hl:look Lw k with
  |none=>rw[hl]at hx;exact .inl ⟨rfl,hx⟩
  |some y=>
   rw[hl]at hx
   cases y with
   |none=>simp at hx
   |some z=>simp at hx;subst hx;exact .inr rfl
 have hsplit: ∀k x,look Lw k=some (some x)->(k∈qX kin Lw)\/(k∉qX kin Lw/\ ∃y,σ (2*k+1)=some (.bl y)):=by
  intro k x hx;by_cases hk:(look kin k).isSome=true
  .refine .inr ⟨?_,hin k hk⟩
   intro hn;simp only[qX,q5R]at hn;rw[Option.isNone_iff_eq_none]at hn;rw[hn.2]at hk;cases hk
  .refine .inl ?_
   simp only[qX,q5R,q6T];refine⟨⟨(k,some x),⟨qR hx,rfl⟩,rfl⟩,?_⟩
   cases hq:look kin k with
   |none=>rfl
   |some z=>rw[hq]at hk;simp at hk
 --every block of the new state:either old with the same place,or new
 have hold: ∀k x,(σ.upd (Wof dst R Lw)) (2*k+1)=some (.bl x)->(k∈qX kin Lw)\/(k∉qX kin Lw/\β' k=β k/\(∃y,σ (2*k+1)=some (.bl y))/\k∉vg Lw\/False)\/(k∉qX kin Lw/\β' k=β k/\ ∃y,σ (2*k+1)=some (.bl y)):=by
  intro k x hx;rcases hnewblk k x hx with⟨h1,h2⟩|h1
  .have hk:k∉qX kin Lw:=λhn=>hknLw k hn h1
   exact .inr (.inr ⟨hk,hs.beta k hk,x,h2⟩)
  .rcases hsplit k x h1 with hk|⟨hk,y,hy⟩
   .exact .inl hk
   .exact .inr (.inr ⟨hk,hs.beta k hk,y,hy⟩)
 have hold2: ∀k x,(σ.upd (Wof dst R Lw)) (2*k+1)=some (.bl x)->(k∈qX kin Lw)\/(k∉qX kin Lw/\β' k=β k/\ ∃y,σ (2*k+1)=some (.bl y)):=by
  intro k x hx;rcases hold k x hx with h|⟨⟨h,h',h'',_⟩⟩|h
  .exact .inl h
  .rename_i q;exact .inr ⟨h,h',h''⟩
  .rename_i q;exact q.elim
  .exact .inr h
 have hnd: ∀k x,(σ.upd (Wof dst R Lw)) (2*k+1)=some (.bl x)-> ∀k0∈vg Lw,(∀y,look Lw k≠some y)->k≠k0:=by
  intro k x _ k0 hk0 hl e;subst e;simp only[vg,q6T,q5R]at hk0;obtain⟨p,⟨hp,_⟩,rfl⟩:=hk0
  cases hq:look Lw p.1 with
  |none=>exact(jX.1 hq) p hp rfl
  |some y=>exact hl y hq
 refine⟨?_,?_,?_,?_,?_,?_,?_,?_,?_,?_,?_,?_,?_,?_,?_⟩
 .cases dst<;>exact h.defers
 .rw[Act.put_size];exact h.size
 .intro t av ht
  simp only[FS.upd,wT]at ht;by_cases e:dst=some t
  .rw[if_pos e]at ht
   simp at ht;subst ht;subst e
   have hlt:t<a.tmps.size:=by rw[h.size];exact hdst t rfl
   exact⟨v,by simp[Act.put,hlt],hR⟩
  .rw[if_neg e]at ht
   obtain⟨u,hu,hsat⟩:=h.slot t av ht;refine⟨u,?_,AV.sat_congr hs.hle (hbeta _ _ ht (by rw[wT,if_neg e])) hsat⟩
   cases dst with
   |none=>exact hu
   |some d=>
    have hne:d≠t:=λe'=>e (by rw[e'])
    simp only[Act.put];rw[Array.getElem?_setIfInBounds_ne hne];exact hu
 .intro k x hx
  rcases hnewblk k x hx with⟨h1,h2⟩|h1
  .have hk:k∉qX kin Lw:=λhn=>hknLw k hn h1
   refine Blk.rep_congr (h.blk k x h2) hs.hle ?_ ?_
   .rintro k' (rfl|hm)
    .exact hs.beta _ hk
    .exact hbeta _ _ h2 (by rw[Ad,h1];rfl) k' hm
   .intro b c hb
    refine hs.keep b (Blk.rep_lt (h.blk k x h2) hb) λk' hk' c' hc'=>?_
    obtain⟨y,hy⟩:=hkw k' hk';have hne:k'≠k:=λe=>hkwLw k' hk' (e▸h1)
    exact h.inj k' k y x b c' c hy h2 hne hc' hb
  .exact hL k x (qR h1)
 .intro k x b c hx hb
  have hlt:b<w'.heap.size:=by
   rcases hnewblk k x hx with⟨h1,h2⟩|h1
   .have hk:k∉qX kin Lw:=λhn=>hknLw k hn h1
    rw[hs.beta k hk]at hb;exact q6g (Blk.rep_lt (h.blk k x h2) hb) hs.size
   .exact Blk.rep_lt (hL k x (qR h1)) hb
  rcases hold2 k x hx with hk|⟨hk,hbk,y,hy⟩
  .obtain⟨f1,f2⟩:=hs.fresh k hk b c hb
   refine⟨f1,hlt,?_⟩;rcases f2 with f2|⟨k0,hk0,c0,f2⟩
   .exact .inl (q6e h.wsize f2)
   .obtain⟨y,hy⟩:=hin k0 (hkd k0 hk0).1
    exact(h.own k0 y b c0 hy f2).2.2
  .rw[hbk]at hb
   obtain⟨o1,o2,o3⟩:=h.own k y b c hy hb;refine⟨?_,hlt,o3⟩
   cases hH:H' b with
   |none=>rfl
   |some cs=>
    rcases hs.hnew b (by rw[hH];simp)with q|q
    .exact absurd o1 q
    .exact absurd o2 (Nat.not_lt.2 q)
 .intro k k' x x' b c c' hx hx' hne hb hb'
  have main: ∀k k' x x' c c',(σ.upd (Wof dst R Lw)) (2*k+1)=some (.bl x)->(σ.upd (Wof dst R Lw)) (2*k'+1)=some (.bl x')->k≠k'->β' k=some (b,c)->β' k'=some (b,c')->k∈qX kin Lw->k'∉qX kin Lw->False:=by
   intro k k' x x' c c' hx hx' hne hb hb' hk hk';rcases hold2 k' x' hx' with q|⟨_,e,y,hy⟩
   .exact hk' q
   rw[e]at hb';obtain⟨_,f2⟩:=hs.fresh k hk b c hb;rcases f2 with f2|⟨k0,hk0,c0,f2⟩
   .exact absurd (h.own k' y b c' hy hb').2.1 (Nat.not_lt.2 f2)
   .obtain⟨y0,hy0⟩:=hin k0 (hkd k0 hk0).1
    refine h.inj k0 k' y0 y b c0 c' hy0 hy ?_ f2 hb';intro e0
    --k0 is dropped,k' stands in the new state
    subst e0;rcases hnewblk k0 x' hx' with⟨h1,_⟩|h1
    .exact hnd k0 x' hx' k0 hk0 (by rw[h1];simp) rfl
    .rw[(hkd k0 hk0).2]at h1;cases h1
  by_cases hk:k∈qX kin Lw<;>by_cases hk':k'∈qX kin Lw
  .exact hs.ninj k hk k' hk' hne b c c' hb hb'
  .exact main k k' x x' c c' hx hx' hne hb hb' hk hk'
  .exact main k' k x' x c' c hx' hx (Ne.symm hne) hb' hb hk' hk
  .rcases hold2 k x hx with q|⟨_,e,y,hy⟩
   .exact hk q
   rcases hold2 k' x' hx' with q|⟨_,e',y',hy'⟩
   .exact hk' q
   rw[e]at hb;rw[e']at hb'
   exact h.inj k k' y y' b c c' hy hy' hne hb hb'
 .intro k hk
  rw[hs.beta k λhn=>?_]
  .exact h.bor k hk
  .exact(hmen k hn).1 hk
 .rw[hs.os];exact h.os
 .rw[hs.tape];exact h.tape
 .rw[hs.output];exact h.output
 .exact q6e h.wsize hs.size
 .intro b hb hbor
  rw[hs.keep b (q6g hb h.wsize) λk hk c hc=>?_]
  .exact h.frame b hb hbor
  .obtain⟨y,hy⟩:=hkw k hk
   rcases(h.own k y b c hy hc).2.2 with q|⟨k0,hk0,c0,q⟩
   .omega
   .exact hbor k0 hk0 c0 q
 .exact h.hle.trans hs.hle
 .intro b hb
  rcases hs.hnew b hb with q|q
  .exact h.hnew b q
  .exact .inr (q6e h.wsize q)
 .exact hs.hon
section
structure PI where
 rd:List Nat
 W:Wr
 nw:List Nat
 tch:List Nat
 alt:Option (Nat×XV)
instance:Inhabited PI:=⟨⟨[],[],[],[],none⟩⟩
def ev(pl:Nat->PI)(l:List Nat)(σ:FS):FS:=l.foldl (λσ i=>σ.upd (pl i).W) σ
theorem DO(pl:Nat->PI)(i:Nat)(l:List Nat)(σ:FS):ev pl (i::l) σ=ev pl l (σ.upd (pl i).W):=rfl
theorem D2(pl:Nat->PI)(l l':List Nat)(σ:FS):ev pl (l++l') σ=ev pl l' (ev pl l σ):=List.foldl_append
theorem q3g{σ σ':FS}{W:Wr}{ℓ:Nat}(h:σ ℓ=σ' ℓ):σ.upd W ℓ=σ'.upd W ℓ:=by
 unfold FS.upd;split<;>first|rfl|exact h
theorem LQ(pl:Nat->PI){ℓ:Nat}: ∀(l:List Nat){σ σ':FS},σ ℓ=σ' ℓ->ev pl l σ ℓ=ev pl l σ' ℓ
 |[],_,_,h=>h
 |i::l,_,_,h=>LQ pl l (q3g (W:=(pl i).W) h)
theorem zP(pl:Nat->PI)(ℓ:Nat): ∀(l:List Nat)(σ:FS),ev pl l σ ℓ=ev pl (l.filter λj=>(look (pl j).W ℓ).isSome) σ ℓ
 |[],_=>rfl
 |i::l,σ=>by
  rw[List.filter_cons]
  cases h:look (pl i).W ℓ with
  |none=>
   simp only[Option.isSome_none,q5n,if_false];rw[DO,<-zP pl ℓ l σ];exact LQ pl l (by simp[FS.upd,h])
  |some v=>
   simp only[Option.isSome_some,if_true];rw[DO,DO,zP pl ℓ l]
def hits(xs ys:List Nat):Bool:=xs.any λx=>ys.any λy=>Nat.beq x y
def locs(W:Wr):List Nat:=W.map (·.1)
def rdA(p:PI):List Nat:=match p.alt with|none=>p.rd|some (ℓ,_)=>p.rd.filter λx=>!Nat.beq x ℓ
theorem O1{p:PI}{ℓ:Nat}(h:ℓ∈p.rd):(∃x,p.alt=some (ℓ,x))\/ℓ∈rdA p:=by
 unfold rdA
 cases ha:p.alt with
 |none=>exact .inr h
 |some y=>
  obtain⟨ℓ0,x⟩:=y;by_cases e:ℓ=ℓ0
  .subst e;exact .inl ⟨x,rfl⟩
  .refine .inr (q5R.2 ⟨h,?_⟩)
   simp only[jm e];rfl
def conf(p q:PI):Bool:=hits (locs p.W) q.rd||hits (locs p.W) (locs q.W)||hits (rdA p) (locs q.W)||hits p.nw q.tch
def setA(σ:FS)(ℓ:Nat)(x:XV):FS:=λm=>if m=ℓ then some x else σ m
def Kr(n:Nat)(pl:Nat->PI)(M:List Nat):Prop:=
 ∀i j ℓ x,i<j->j<n->(pl i).alt=some (ℓ,x)->look (pl j).W ℓ≠none->Nat.testBit (M.getD j 0) i=true\/look (pl j).W ℓ=some (some x)
theorem ND(pl:Nat->PI){ℓ:Nat}{x:XV}: ∀(l:List Nat)(σ:FS),(∀j∈l,look (pl j).W ℓ=some (some x))->ev pl l σ ℓ=σ ℓ\/ev pl l σ ℓ=some x
 |[],_,_=> .inl rfl
 |i::l,σ,h=>by
  have h1:(σ.upd (pl i).W) ℓ=some x:=by simp[FS.upd,h i q5Q]
  rw[DO];rcases ND pl l (σ.upd (pl i).W) λj hj=>h j (q5P _ hj)with e|e
  .exact .inr (e.trans h1)
  .exact .inr e
theorem Bl{xs ys:List Nat}:hits xs ys=true↔ ∃x,x∈xs/\x∈ys:=by
 simp only[hits,List.any_eq_true,Nat.beq_eq];constructor
 .rintro⟨x,hx,y,hy,rfl⟩;exact⟨x,hx,hy⟩
 .rintro⟨x,hx,hy⟩;exact⟨x,hx,x,hy,rfl⟩
theorem CK{W:Wr}{ℓ:Nat}(h:look W ℓ≠none):ℓ∈locs W:=by
 cases hq:look W ℓ with
 |none=>exact absurd hq h
 |some v=>exact q6T.2 ⟨_,qR hq,rfl⟩
def M4(M:List Nat)(j:Nat)(o:Oper):Nat:=
 o.after.toList.foldl (λs e=>bif Region.binds .any e then s|||2^e.on|||(bif Nat.blt e.on j then M.getD e.on 0 else 0)else s) 0
def masks:Nat->List Oper->List Nat->List Nat
 |_,[],acc=>acc
 |j,o::r,acc=>masks (j+1) r (acc++[M4 acc j o])
def okM(ops:List Oper)(M:List Nat):Bool:=
 (List.range ops.length).all λj=>Nat.beq (M.getD j 0) (M4 M j (ops.getD j default))&&(ops.getD j default).after.toList.all λe=>!Region.binds .any e||Nat.blt e.on j
theorem Fa(M:List Nat)(j:Nat)(i:Nat): ∀(l:List Edge)(s:Nat),
  Nat.testBit (l.foldl (λs e=>bif Region.binds .any e then s|||2^e.on|||(bif Nat.blt e.on j then M.getD e.on 0 else 0)else s) s) i=true->
  Nat.testBit s i=true\/ ∃e∈l,Region.binds .any e=true/\(e.on=i\/(e.on<j/\Nat.testBit (M.getD e.on 0) i=true))
 |[],_,h=> .inl h
 |e::l,s,h=>by
  rcases Fa M j i l _ h with h|⟨e',h1,h2⟩
  .dsimp only at h
   cases hb:Region.binds .any e with
   |false=>rw[hb]at h;exact .inl h
   |true=>
    rw[hb]at h;simp only[cond_true,Nat.testBit_or,Bool.or_eq_true]at h;rcases h with(h|h)|h
    .exact .inl h
    .rw[Nat.testBit_two_pow]at h
     exact .inr ⟨e,q5Q,hb,.inl (by simpa using h)⟩
    .cases hlt:Nat.blt e.on j with
     |false=>rw[hlt]at h;simp at h
     |true=>
      rw[hlt]at h;exact .inr ⟨e,q5Q,hb,.inr ⟨by simpa using hlt,h⟩⟩
  .exact .inr ⟨e',q5P _ h1,h2⟩
section
variable {ops:Array Oper} {M:List Nat}
def Cq(ops:Array Oper)(listed:Array Bool):Prop:=
 ∀j o,ops[j]?=some o->listed.getD j false=true-> ∀e∈o.after,Region.binds .any e=true->listed.getD e.on false=true
theorem Md(hM:okM ops.toList M=true){j:Nat}{o:Oper}(ho:ops[j]?=some o):M.getD j 0=M4 M j o/\ ∀e∈o.after,Region.binds .any e=true->e.on<j:=by
 have hlt:j<ops.size:=(q6L.1 ho).1
 have hg:ops.toList.getD j default=o:=by
  have:ops.toList[j]?=some o:=by simpa using ho
  simp[q5y,this]
 have:=(q6N.1 hM) j (by simpa using hlt);rw[hg]at this;simp only[q5m]at this;refine⟨q68 this.1,λe he hb=>?_⟩;have:=(q6N.1 this.2) e (by simpa using he);rw[hb]at this;simpa using this
theorem Az(hM:okM ops.toList M=true){listed:Array Bool}(hc:Cq ops listed)(i:Nat): ∀j,j<ops.size->listed.getD j false=true->Nat.testBit (M.getD j 0) i=true->listed.getD i false=true:=by
 intro j
 induction j using Nat.strongRecOn with
 |_ j ih=>
  intro hj hl ht;have ho:ops[j]?=some ops[j]:=Array.getElem?_eq_getElem hj;obtain⟨h1,h2⟩:=Md hM ho;rw[h1]at ht;rcases Fa M j i _ _ ht with h|⟨e,he,hb,h⟩
  .simp at h
  .have hle:=hc j _ ho hl e (by simpa using he) hb
   rcases h with rfl|⟨hlt,h⟩
   .exact hle
   .exact ih e.on hlt (by omega) hle h
theorem Iw(hM:okM ops.toList M=true){listed:Array Bool}(hc:Cq ops listed){i j:Nat}(hj:j∈Region.ready .any ops listed)(ht:Nat.testBit (M.getD j 0) i=true):listed.getD i false=true:=by
 obtain⟨_,o,ho,hall⟩:=mem_ready.1 hj;have hlt:j<ops.size:=(q6L.1 ho).1;obtain⟨h1,h2⟩:=Md hM ho;rw[h1]at ht;rcases Fa M j i _ _ ht with h|⟨e,he,hb,h⟩
 .simp at h
 .have hle:=hall e (by simpa using he) hb
  rcases h with rfl|⟨hlt',h⟩
  .exact hle
  .exact Az hM hc i e.on (by omega) hle h
end
def okPl(n:Nat)(pl:Nat->PI)(M:List Nat):Bool:=
 (List.range n).all λj=>(List.range j).all λi=>(!conf (pl i) (pl j)||Nat.testBit (M.getD j 0) i)&&!hits (pl j).nw (pl i).tch
abbrev Fw(ro:Option Nat):Fence:={Fence.wide with round:=ro}
def ndO(o:Oper):Bool:=match o.op with| .defer _=>false|_=>true
abbrev Dfo(ro:Option Nat)(ops:Array Oper):Prop:=ro=none\/ops.toList.all ndO=true
theorem Xs{P:Program}{ro:Option Nat}{n:Nat}{o:Oper}{a:Act}{w:World}{K:Act->World->Prop}{Q:Exit->Act->World->Prop}(hd:ro=none\/ndO o=true)(h:o.wp P a w K Q):o.wpIn (Fw ro) n P a w K Q:=by
 refine⟨λ_ _=>trivial,?_⟩
 have e:Oper.semAt ro a.eval o=execOp a.eval o:=by
  rcases hd with rfl|hd
  .exact Oper.semAt_none _ _
  .exact Oper.semAt_eq ro _ _ λc hc=>by unfold ndO at hd;rw[hc]at hd;cases hd
 show o.uponIn (Fw ro) n P a K Q ((Oper.semAt ro a.eval o).run P w);rw[e];unfold Oper.wp at h;generalize(execOp a.eval o).run P w=r at*;have hn: ∀{p:Prop},((Fw ro).depth.isSome=true->p):=λh=>by cases h
 cases r with
 |ok x w'=>
  cases x<;>first
   |exact h
   |exact h.elim
   |exact⟨hn,callsIn_wide.2 h⟩
   |exact⟨hn,λc cs _=>let⟨v,w'',h1,h2⟩:=h c cs;⟨v,w'',h1,stepsIn_wide.2 h2⟩⟩
 |halt x w'=>cases x<;>first|exact h|exact h.elim
def Gv(P:Program)(ops:Array Oper)(Q:Exit->Act->World->Prop)(i:Nat)(K:Act->World->Prop)(a:Act)(w:World):Prop:=
 match ops[i]? with
 |none=>K a w
 |some o=>if Region.wanted o (yielded ops a.tmps)then o.wp P a w K Q else K (a.put o.dst undef) w
theorem CS{P:Program}{ops:Array Oper}{Q:Exit->Act->World->Prop}{i:Nat}{K:Act->World->Prop}{a:Act}{w:World}{ro:Option Nat}{n:Nat}(hd:Dfo ro ops)(h:Gv P ops Q i K a w):wpOpIn (Fw ro) n P ops Q i K a w:=by
 unfold Gv at h;unfold wpOpIn
 cases ho:ops[i]? with
 |none=>rw[ho]at h;exact h
 |some o=>
  rw[ho]at h;simp only at h⊢;split
  .rename_i hw
   rw[if_pos hw]at h;refine Xs (hd.imp id λh1=>q6N.1 h1 o ?_) h;exact Array.mem_toList_iff.2 (Array.mem_of_getElem? ho)
  .rename_i hw
   rw[if_neg hw]at h;exact⟨λ_ _=>trivial,h⟩
def Good(P:Program)(E:Env)(ops:Array Oper)(i:Nat)(p:PI)(σi:FS):Prop:=
 ∀σ:FS,(∀ℓ∈p.rd,σ ℓ=σi ℓ)->(∀k∈p.nw,∀ℓ x,σ ℓ=some x->look p.W ℓ=none->x.men k=false)->
  ∀a w H β K Q,RepF E σ a w H β->(∀a' w' H' β',RepF E (σ.upd p.W) a' w' H' β'->K a' w')->Gv P ops Q i K a w
theorem Dl (p : Nat -> Bool) (i : Nat) : ∀ n, i <= n -> (List.range n).filter (λj => decide (j < i) && p j) = (List.range i).filter p := by
  intro n
  induction n with
  | zero => intro h; have : i = 0 := by omega
            subst this; rfl
  | succ n ih =>
    intro h;by_cases e : i = n + 1
    · subst e
      refine List.filter_congr λj hj => ?_
      have : j < n + 1 := by simpa using hj
      simp [this]
    · rw [List.range_succ, List.filter_append, ih (by omega)]
      have : ¬ n < i := by omega
      simp [this]
section
variable {P:Program} {E:Env} {ops:Array Oper} {M:List Nat} {pl:Nat->PI} {σ0:FS} {Q:Exit->Act->World->Prop}
def σS(pl:Nat->PI)(n:Nat)(σ0:FS)(listed:Array Bool):FS:=ev pl ((List.range n).filter λj=>listed.getD j false) σ0
theorem AK(listed:Array Bool)(i j:Nat)(hi:i<listed.size):(listed.setIfInBounds i true).getD j false=(decide (j=i)||listed.getD j false):=by
 by_cases e:j=i
 .subst e;simp[hi]
 .have:i≠j:=λh=>e h.symm
  simp[Array.getElem?_setIfInBounds_ne this,e]
theorem RM(hM:okM ops.toList M=true)(hP:okPl ops.size pl M=true){listed:Array Bool}(hc:Cq ops listed){i:Nat}(hi:i∈Region.ready .any ops listed)
  {ℓ:Nat}(hℓ: ∀j,look (pl j).W ℓ≠none->(j<i->conf (pl j) (pl i)=true)/\(i<j->conf (pl i) (pl j)=true))(hself:look (pl i).W ℓ=none\/True):
  σS pl ops.size σ0 listed ℓ=ev pl (List.range i) σ0 ℓ:=by
 obtain⟨hnl,o,ho,_⟩:=mem_ready.1 hi;have hlt:i<ops.size:=(q6L.1 ho).1
 have hnl':listed.getD i false=false:=by
  rcases q6h i listed.size with h'|h'
  .simp[h']at hnl⊢;exact hnl
  .simp[Array.getElem?_eq_none h']at hnl
 have hpl: ∀j,j<ops.size-> ∀i',i'<j->conf (pl i') (pl j)=true->Nat.testBit (M.getD j 0) i'=true:=by
  intro j hj i' hi' hcf;have h1:=(q6N.1 hP) j (by simpa using hj);have h2:=(q6N.1 h1) i' (by simpa using hi');simp only[q5m,hcf,Bool.not_true,Bool.false_or]at h2;exact h2.1
 unfold σS;rw[zP pl ℓ,zP pl ℓ (List.range i),List.filter_filter];refine congrArg (λl=>ev pl l σ0 ℓ) ?_;rw[<-Dl (λj=>(look (pl j).W ℓ).isSome) i ops.size (by omega)];refine List.filter_congr λj hj=>?_
 have hj':j<ops.size:=by simpa using hj
 cases hw:look (pl j).W ℓ with
 |none=>simp
 |some v=>
  have hne:look (pl j).W ℓ≠none:=by rw[hw];simp
  obtain⟨c1,c2⟩:=hℓ j hne;simp only[Option.isSome_some,Bool.true_and,Bool.and_true];rcases Nat.lt_trichotomy j i with h|h|h
  .have:=Iw hM hc hi (hpl i hlt j h (c1 h))
   simp[h,this]
  .subst h;simp[hnl']
  .have hb:=hpl j hj' i h (c2 h)
   have:listed.getD j false=false:=by
    cases hl:listed.getD j false with
    |false=>rfl
    |true=>rw[Az hM hc i j hj' hl hb]at hnl';cases hnl'
   have h': ¬j<i:=by omega
   simp[this,h']
theorem Tv(hM:okM ops.toList M=true)(hP:okPl ops.size pl M=true)(hA:Kr ops.size pl M){listed:Array Bool}(hc:Cq ops listed){i:Nat}(hi:i∈Region.ready .any ops listed)
  {ℓ:Nat}{x:XV}(ha:(pl i).alt=some (ℓ,x))(hℓ: ∀j,look (pl j).W ℓ≠none->j<i->conf (pl j) (pl i)=true):
  σS pl ops.size σ0 listed ℓ=ev pl (List.range i) σ0 ℓ\/σS pl ops.size σ0 listed ℓ=some x:=by
 obtain⟨hnl,o,ho,_⟩:=mem_ready.1 hi;have hlt:i<ops.size:=(q6L.1 ho).1
 have hnl':listed.getD i false=false:=by
  rcases q6h i listed.size with h'|h'
  .simp[h']at hnl⊢;exact hnl
  .simp[Array.getElem?_eq_none h']at hnl
 have hpl: ∀j,j<ops.size-> ∀i',i'<j->conf (pl i') (pl j)=true->Nat.testBit (M.getD j 0) i'=true:=by
  intro j hj i' hi' hcf;have h1:=(q6N.1 hP) j (by simpa using hj);have h2:=(q6N.1 h1) i' (by simpa using hi');simp only[q5m,hcf,Bool.not_true,Bool.false_or]at h2;exact h2.1
 have hsplit:List.range ops.size=List.range i++List.range' i (ops.size-i):=by
  rw[List.range_eq_range',List.range_eq_range'];have h:= @List.range'_append_1 0 i (ops.size-i);rw[q6z,show i+(ops.size-i)=ops.size by omega]at h;exact h.symm
 have e1:ev pl ((List.range i).filter λj=>listed.getD j false) σ0 ℓ=ev pl (List.range i) σ0 ℓ:=by
  rw[zP pl ℓ,zP pl ℓ (List.range i),List.filter_filter];refine congrArg (λl=>ev pl l σ0 ℓ) (List.filter_congr λj hj=>?_);have hj':j<i:=by simpa using hj
  cases hw:look (pl j).W ℓ with
  |none=>simp
  |some v=>
   have:=Iw hM hc hi (hpl i hlt j hj' (hℓ j (by rw[hw];simp) hj'));simp only[Option.isSome_some,Bool.true_and];exact this
 unfold σS;rw[hsplit,List.filter_append,D2,<-e1];rw[zP pl ℓ];refine ND pl _ _ λj hj=>?_
 simp only[q5R,List.mem_range'_1]at hj;obtain⟨⟨⟨h1,h2⟩,h3⟩,h4⟩:=hj;have hne:look (pl j).W ℓ≠none:=by intro e;rw[e]at h4;cases h4
 have hji:i<j:=by
  rcases Nat.eq_or_lt_of_le h1 with e|e
  .subst e;rw[hnl']at h3;cases h3
  .exact e
 rcases hA i j ℓ x hji (by omega) ha hne with h|h
 .rw[Az hM hc i j (by omega) h3 h]at hnl';cases hnl'
 .exact h
theorem set_same(hM:okM ops.toList M=true)(hP:okPl ops.size pl M=true){listed:Array Bool}(hsz:listed.size=ops.size)(hc:Cq ops listed){i:Nat}(hi:i∈Region.ready .any ops listed):
  σS pl ops.size σ0 (listed.setIfInBounds i true)=(σS pl ops.size σ0 listed).upd (pl i).W:=by
 obtain⟨hnl,o,ho,_⟩:=mem_ready.1 hi;have hlt:i<ops.size:=(q6L.1 ho).1
 have hnl':listed.getD i false=false:=by
  have h':i<listed.size:=by omega
  simp[h']at hnl⊢;exact hnl
 have hpl: ∀j,j<ops.size-> ∀i',i'<j->conf (pl i') (pl j)=true->Nat.testBit (M.getD j 0) i'=true:=by
  intro j hj i' hi' hcf;have h1:=(q6N.1 hP) j (by simpa using hj);have h2:=(q6N.1 h1) i' (by simpa using hi');simp only[q5m,hcf,Bool.not_true,Bool.false_or]at h2;exact h2.1
 funext ℓ
 cases hw:look (pl i).W ℓ with
 |none=>
  have:(σS pl ops.size σ0 listed).upd (pl i).W ℓ=σS pl ops.size σ0 listed ℓ:=by simp[FS.upd,hw]
  rw[this];unfold σS;rw[zP pl ℓ,zP pl ℓ ((List.range ops.size).filter _),List.filter_filter,List.filter_filter];refine congrArg (λl=>ev pl l σ0 ℓ) ?_;refine List.filter_congr λj hj=>?_
  rw[AK _ _ _ (by omega)];by_cases e:j=i
  .subst e;simp[hw]
  .simp[e]
 |some v=>
  have:(σS pl ops.size σ0 listed).upd (pl i).W ℓ=v:=by simp[FS.upd,hw]
  rw[this];unfold σS;rw[zP pl ℓ,List.filter_filter];have hne:look (pl i).W ℓ≠none:=by rw[hw];simp
  have:(List.range ops.size).filter (λj=>(look (pl j).W ℓ).isSome&&(listed.setIfInBounds i true).getD j false)=
    (List.range i).filter (λj=>(look (pl j).W ℓ).isSome&&listed.getD j false)++[i]:=by
   have e1:(List.range (i+1)).filter (λj=>(look (pl j).W ℓ).isSome&&(listed.setIfInBounds i true).getD j false)=
     (List.range i).filter (λj=>(look (pl j).W ℓ).isSome&&listed.getD j false)++[i]:=by
    rw[List.range_succ,List.filter_append]
    congr 1
    .refine List.filter_congr λj hj=>?_
     have:j<i:=by simpa using hj
     rw[AK _ _ _ (by omega)];have e: ¬j=i:=by omega
     simp[e]
    .simp[hw,hsz,hlt]
   rw[<-e1,<-Dl _ (i+1) ops.size (by omega)];refine List.filter_congr λj hj=>?_
   have hj':j<ops.size:=by simpa using hj
   by_cases h:j<i+1
   .simp[h]
   .simp only[h,decide_false,Bool.false_and]
    rw[AK _ _ _ (by omega)];have e: ¬j=i:=by omega
    simp only[e,decide_false,Bool.false_or]
    cases hwj:look (pl j).W ℓ with
    |none=>rfl
    |some u=>
     have hcf:conf (pl i) (pl j)=true:=by
      unfold conf;have:hits (locs (pl i).W) (locs (pl j).W)=true:=Bl.2 ⟨ℓ,CK hne,CK (by rw[hwj];simp)⟩;simp[this]
     have hb:=hpl j hj' i (by omega) hcf
     cases hl:listed.getD j false with
     |false=>rfl
     |true=>rw[Az hM hc i j hj' hl hb]at hnl';cases hnl'
  rw[this,D2];simp[ev,FS.upd,hw]
theorem PJ{ro:Option Nat}{n:Nat}(hdf:Dfo ro ops)(hM:okM ops.toList M=true)(hP:okPl ops.size pl M=true)(hA:Kr ops.size pl M)
  (hWt: ∀j,∀ℓ x,look (pl j).W ℓ=some (some x)-> ∀k,x.men k=true->k∈(pl j).tch)
  (h0: ∀i,i<ops.size-> ∀k∈(pl i).nw,∀ℓ x,σ0 ℓ=some x->look (pl i).W ℓ=none->x.men k=false)
  (hG: ∀i,i<ops.size->Good P E ops i (pl i) (ev pl (List.range i) σ0))
  (hGA: ∀i,i<ops.size-> ∀ℓ x,(pl i).alt=some (ℓ,x)->Good P E ops i (pl i) (setA (ev pl (List.range i) σ0) ℓ x))
  (hQ: ∀a w H β,RepF E (ev pl (List.range ops.size) σ0) a w H β->Q .normal a w):
  ∀(fuel:Nat)(listed:Array Bool)(a:Act)(w:World)(H:Heap)(β:Bm),listed.size=ops.size->((List.range ops.size).filter λj=>listed.getD j false).length+fuel=ops.size->
   Cq ops listed->RepF E (σS pl ops.size σ0 listed) a w H β->wpAnyIn (Fw ro) n P .any ops Q fuel listed a w:=by
 have hall: ∀(listed:Array Bool),listed.size=ops.size->Cq ops listed->Region.ready .any ops listed=[]-> ∀j,j<ops.size->listed.getD j false=true:=by
  intro listed hsz hc hr j
  induction j using Nat.strongRecOn with
  |_ j ih=>
   intro hj
   cases hl:listed.getD j false with
   |true=>rfl
   |false=>
    have ho:ops[j]?=some ops[j]:=Array.getElem?_eq_getElem hj
    have:j∈Region.ready .any ops listed:=by
     rw[mem_ready];have hj':j<listed.size:=by omega
     refine⟨by simp[hj']at hl⊢;exact hl,_,ho,λe he hb=>?_⟩;have:=(Md hM ho).2 e he hb;exact ih e.on this (by omega)
    rw[hr]at this;cases this
 have hfull: ∀(listed:Array Bool),(∀j,j<ops.size->listed.getD j false=true)->σS pl ops.size σ0 listed=ev pl (List.range ops.size) σ0:=by
  intro listed h;unfold σS
  congr 1
  rw[List.filter_eq_self];intro j hj;exact h j (by simpa using hj)
 intro fuel
 induction fuel with
 |zero=>
  intro listed a w H β hsz hlen hc hrep
  have hf:((List.range ops.size).filter λj=>listed.getD j false)=List.range ops.size:=by
   refine List.Sublist.eq_of_length List.filter_sublist ?_;simpa using hlen
  have hl: ∀j,j<ops.size->listed.getD j false=true:=by
   intro j hj;exact(List.filter_eq_self.1 hf) j (by simpa using hj)
  refine⟨?_,hQ a w H β (hfull listed hl▸hrep)⟩
  cases hr:Region.ready .any ops listed with
  |nil=>rfl
  |cons i r=>
   have hi:i∈Region.ready .any ops listed:=by rw[hr];exact q5Q
   obtain⟨hnl,o,ho,_⟩:=mem_ready.1 hi;have hlt:i<ops.size:=(q6L.1 ho).1;have:=hl i hlt;have h':i<listed.size:=by omega
   simp[h']at hnl this;rw[hnl]at this;cases this
 |succ fuel ih=>
  intro listed a w H β hsz hlen hc hrep;refine⟨λhr=>hQ a w H β (hfull listed (hall listed hsz hc hr)▸hrep),λi hi=>?_⟩;obtain⟨hnl,o,ho,hedges⟩:=mem_ready.1 hi;have hlt:i<ops.size:=(q6L.1 ho).1;have hlt':i<listed.size:=by omega
  have hnl':listed.getD i false=false:=by simp[hlt']at hnl⊢;exact hnl
  have hpl: ∀j,j<ops.size-> ∀i',i'<j->(conf (pl i') (pl j)=true->Nat.testBit (M.getD j 0) i'=true)/\hits (pl j).nw (pl i').tch=false:=by
   intro j hj i' hi';have h1:=(q6N.1 hP) j (by simpa using hj);have h2:=(q6N.1 h1) i' (by simpa using hi');simp only[q5m,q5o]at h2;exact⟨λhcf=>by simpa[hcf]using h2.1,h2.2⟩
  have hrd: ∀ℓ∈rdA (pl i),σS pl ops.size σ0 listed ℓ=ev pl (List.range i) σ0 ℓ:=by
   intro ℓ hℓ
   have hℓ2:ℓ∈(pl i).rd:=by
    unfold rdA at hℓ;split at hℓ
    .exact hℓ
    .exact(q5R.1 hℓ).1
   refine RM hM hP hc hi (λj hj=>⟨λ_=>?_,λ_=>?_⟩) (.inr trivial)
   .unfold conf
    have:hits (locs (pl j).W) (pl i).rd=true:=Bl.2 ⟨ℓ,CK hj,hℓ2⟩;simp[this]
   .unfold conf
    have:hits (rdA (pl i)) (locs (pl j).W)=true:=Bl.2 ⟨ℓ,hℓ,CK hj⟩;simp[this]
  have hτ: ∃τ,Good P E ops i (pl i) τ/\ ∀ℓ∈(pl i).rd,σS pl ops.size σ0 listed ℓ=τ ℓ:=by
   cases ha:(pl i).alt with
   |none=>
    refine⟨_,hG i hlt,λℓ hℓ=>?_⟩;rcases O1 hℓ with⟨x,h⟩|h
    .rw[ha]at h;cases h
    .exact hrd ℓ h
   |some y=>
    obtain⟨ℓ0,x⟩:=y
    have hoth: ∀ℓ∈(pl i).rd,ℓ≠ℓ0->σS pl ops.size σ0 listed ℓ=ev pl (List.range i) σ0 ℓ:=by
     intro ℓ hℓ hne;rcases O1 hℓ with⟨x',h⟩|h
     .rw[ha]at h;cases h;exact absurd rfl hne
     .exact hrd ℓ h
    by_cases hin:ℓ0∈(pl i).rd
    .have:=Tv (σ0:=σ0) hM hP hA hc hi ha λj hj _=>by
      unfold conf;have:hits (locs (pl j).W) (pl i).rd=true:=Bl.2 ⟨ℓ0,CK hj,hin⟩;simp[this]
     rcases this with e|e
     .refine⟨_,hG i hlt,λℓ hℓ=>?_⟩
      by_cases e2:ℓ=ℓ0
      .subst e2;exact e
      .exact hoth ℓ hℓ e2
     .refine⟨_,hGA i hlt ℓ0 x ha,λℓ hℓ=>?_⟩
      by_cases e2:ℓ=ℓ0
      .subst e2;rw[e];simp[setA]
      .rw[hoth ℓ hℓ e2];simp[setA,e2]
    .refine⟨_,hG i hlt,λℓ hℓ=>hoth ℓ hℓ λe=>hin (e▸hℓ)⟩
  obtain⟨τ,hGτ,hrτ⟩:=hτ;refine CS hdf (hGτ (σS pl ops.size σ0 listed) hrτ ?_ a w H β _ Q hrep ?_)
  .intro k hk ℓ x hx hlk
   unfold σS at hx
   have hnt: ∀j∈(List.range ops.size).filter (λj=>listed.getD j false),k∉(pl j).tch:=by
    intro j hj hkt;simp only[q5R,List.mem_range]at hj;obtain⟨hj1,hj2⟩:=hj;rcases Nat.lt_trichotomy j i with h|h|h
    .have:=(hpl i hlt j h).2
     rw[Bl.2 ⟨k,hk,hkt⟩]at this;cases this
    .subst h;rw[hj2]at hnl';cases hnl'
    .have hcf:conf (pl i) (pl j)=true:=by
      unfold conf;have:hits (pl i).nw (pl j).tch=true:=Bl.2 ⟨k,hk,hkt⟩;simp[this]
     rw[Az hM hc i j hj1 hj2 ((hpl j hj1 i h).1 hcf)]at hnl';cases hnl'
   have key: ∀(l:List Nat)(σ:FS),(∀j∈l,k∉(pl j).tch)-> ∀ℓ x,ev pl l σ ℓ=some x->σ ℓ=some x\/x.men k=false:=by
    intro l
    induction l with
    |nil=>intro σ _ ℓ x hx;exact .inl hx
    |cons j l ih=>
     intro σ hl ℓ x hx;rw[DO]at hx;rcases ih _ (λj' hj'=>hl j' (q5P _ hj')) ℓ x hx with h|h
     .simp only[FS.upd]at h
      cases hw:look (pl j).W ℓ with
      |none=>rw[hw]at h;exact .inl h
      |some v=>
       rw[hw]at h;simp only at h;subst h;refine .inr ?_
       cases hm:x.men k with
       |false=>rfl
       |true=>exact absurd (hWt j ℓ x hw k hm) (hl j q5Q)
     .exact .inr h
   rcases key _ _ hnt ℓ x hx with h|h
   .exact h0 i hlt k hk ℓ x h hlk
   .exact h
  .intro a' w' H' β' hrep'
   rw[<-set_same hM hP hsz hc hi]at hrep';refine ih _ a' w' H' β' (by simpa using hsz) ?_ ?_ hrep'
   .have e1:((List.range ops.size).filter λj=>(listed.setIfInBounds i true).getD j false).length=((List.range ops.size).filter λj=>listed.getD j false).length+1:=by
     rw[<-List.countP_eq_length_filter,<-List.countP_eq_length_filter]
     have: ∀n,i<n->(List.range n).countP (λj=>(listed.setIfInBounds i true).getD j false)=(List.range n).countP (λj=>listed.getD j false)+1:=by
      intro n
      induction n with
      |zero=>intro h;omega
      |succ n ihn=>
       intro h;rw[List.range_succ,List.countP_append,List.countP_append];by_cases e:i=n
       .subst e
        have:(List.range i).countP (λj=>(listed.setIfInBounds i true).getD j false)=(List.range i).countP (λj=>listed.getD j false):=by
         refine List.countP_congr λj hj=>?_
         have:j<i:=by simpa using hj
         have e: ¬j=i:=by omega
         rw[AK _ _ _ hlt'];simp[e]
        rw[this]
        have s1:List.countP (λj=>(listed.setIfInBounds i true).getD j false) [i]=1:=by
         simp[AK _ _ _ hlt']
        have s2:List.countP (λj=>listed.getD j false) [i]=0:=by
         simp only[List.countP_cons,List.countP_nil,hnl'];rfl
        rw[s1,s2]
       .rw[ihn (by omega)]
        have:List.countP (λj=>(listed.setIfInBounds i true).getD j false) [n]=List.countP (λj=>listed.getD j false) [n]:=by
         have e': ¬n=i:=λh=>e h.symm
         simp only[List.countP_cons,List.countP_nil];rw[AK _ _ _ hlt'];simp[e']
        rw[this];omega
     exact this ops.size hlt
    omega
   .intro j oj hoj hl e he hb
    rw[AK _ _ _ hlt']at hl⊢;by_cases e':j=i
    .subst e'
     rw[ho]at hoj;cases hoj
     simp[hedges e he hb]
    .simp only[e',decide_false,Bool.false_or]at hl
     simp[hc j oj hoj hl e he hb]
theorem Pq{ro:Option Nat}{n:Nat}(hdf:Dfo ro ops)(hm:P.follows .mixedOrders=true)(hM:okM ops.toList M=true)(hP:okPl ops.size pl M=true)(hA:Kr ops.size pl M)
  (hWt: ∀j,∀ℓ x,look (pl j).W ℓ=some (some x)-> ∀k,x.men k=true->k∈(pl j).tch)
  (h0: ∀i,i<ops.size-> ∀k∈(pl i).nw,∀ℓ x,σ0 ℓ=some x->look (pl i).W ℓ=none->x.men k=false)
  (hG: ∀i,i<ops.size->Good P E ops i (pl i) (ev pl (List.range i) σ0))
  (hGA: ∀i,i<ops.size-> ∀ℓ x,(pl i).alt=some (ℓ,x)->Good P E ops i (pl i) (setA (ev pl (List.range i) σ0) ℓ x))
  (hQ: ∀a w H β,RepF E (ev pl (List.range ops.size) σ0) a w H β->Q .normal a w)
  {a:Act}{w:World}{H:Heap}{β:Bm}(hrep:RepF E σ0 a w H β){id:Nat}:(Code.region id ops true).wpIn (Fw ro) n P Q a w:=by
 refine wpIn_region_any hm ?_
 have hrep':RepF E σ0 a {w with drawn:=w.drawn+1} H β:=
  ⟨hrep.defers,hrep.size,hrep.slot,λk b hb=>by have:=hrep.blk k b hb;cases b<;>exact this,hrep.own,hrep.inj,hrep.bor,hrep.os,hrep.tape,hrep.output,hrep.wsize,hrep.frame,hrep.hle,hrep.hnew,hrep.hon⟩
 have hrep'':RepF E (σS pl ops.size σ0 (Array.replicate ops.size false)) a {w with drawn:=w.drawn+1} H β:=by
  have:((List.range ops.size).filter λj=>(Array.replicate ops.size false).getD j false)=[]:=by
   rw[List.filter_eq_nil_iff];intro j hj;have:j<ops.size:=by simpa using hj
   simp[this]
  unfold σS;rw[this];exact hrep'
 refine PJ hdf hM hP hA hWt h0 hG hGA hQ ops.size _ a _ H β (by simp) ?_ ?_ hrep''
 .have:((List.range ops.size).filter λj=>(Array.replicate ops.size false).getD j false)=[]:=by
   rw[List.filter_eq_nil_iff];intro j hj;have:j<ops.size:=by simpa using hj
   simp[this]
  rw[this];simp
 .intro j o ho hl
  have:j<ops.size:=(q6L.1 ho).1;simp[this]at hl
theorem Nf{ro:Option Nat}{n:Nat}(hdf:Dfo ro ops)
  (h0: ∀i,i<ops.size-> ∀k∈(pl i).nw,∀ℓ x,ev pl (List.range i) σ0 ℓ=some x->look (pl i).W ℓ=none->x.men k=false)
  (hG: ∀i,i<ops.size->Good P E ops i (pl i) (ev pl (List.range i) σ0))
  (hQ: ∀a w H β,RepF E (ev pl (List.range ops.size) σ0) a w H β->Q .normal a w)
  {a:Act}{w:World}{H:Heap}{β:Bm}(hrep:RepF E σ0 a w H β){id:Nat}:(Code.region id ops false).wpIn (Fw ro) n P Q a w:=by
 refine wpIn_region ?_
 have: ∀(m i:Nat),i+m=ops.size-> ∀a w H β,RepF E (ev pl (List.range i) σ0) a w H β->wpOpsIn (Fw ro) n P ops Q (List.range' i m) a w:=by
  intro m
  induction m with
  |zero=>
   intro i hi a w H β hr;have:i=ops.size:=by omega
   subst this;exact hQ a w H β hr
  |succ m ih=>
   intro i hi a w H β hr;rw[List.range'_succ,wpOpsIn_cons];refine CS hdf (hG i (by omega) _ (λ_ _=>rfl) (h0 i (by omega)) a w H β _ Q hr ?_);intro a' w' H' β' hr';refine ih (i+1) (by omega) a' w' H' β' ?_;rw[List.range_succ,D2];exact hr'
 rw[List.range_eq_range'];exact this ops.size 0 (by omega) a w H β hrep
end
end
section
theorem vk(b off j:Nat):(⟨b,off,none⟩:Addr).add j=⟨b,off+j,none⟩:=by
 unfold Addr.add;split
 .rename_i h;subst h;rfl
 .rfl
theorem Cd{w:World}{b:Nat}{arr:Array Value}{T:TypeId}{fz:Nat×Nat}(h:w.heap[b]?=some (.cells arr T fz))(off:Nat):w.cell? ⟨b,off,none⟩=arr[off]?:=by
 simp[World.cell?,h]
theorem QC{w:World}{b:Nat}{arr:Array Value}{T:TypeId}(h:w.heap[b]?=some (.cells arr T (0,0)))(off:Nat):w.frozen? ⟨b,off,none⟩=false:=by
 simp[World.frozen?,h]
abbrev qo(k:IntKind)(n:Int):AV:= .c (.one (.val (.int k n)))
abbrev zx(b:Bool):AV:= .c (.one (.val (.bool b)))
abbrev vFun(f:FuncId):AV:= .c (.one (.val (.func (.func f) #[] #[])))
def E6:AV:= .tup []
theorem Dq(β:Bm)(H:Heap):E6.sat β H undef:=⟨#[],rfl,trivial⟩
def spl{α:Type}(l:List α)(off:Nat)(x:List α):List α:=l.take off++(x++l.drop (off+x.length))
theorem Sats.append{β:Bm}{H:Heap}: ∀{l l':List Atom}{vs vs':List Value},Sats β H l vs->Sats β H l' vs'->Sats β H (l++l') (vs++vs')
 |[],_,[],_,_,h=>h
 |_::_,_,_::_,_,h1,h2=>⟨h1.1,Sats.append h1.2 h2⟩
 |[],_,_::_,_,h1,_=>h1.elim
 |_::_,_,[],_,h1,_=>h1.elim
theorem Sats.take{β:Bm}{H:Heap}: ∀(n:Nat){l:List Atom}{vs:List Value},Sats β H l vs->Sats β H (l.take n) (vs.take n)
 |0,_,_,_=>by simp[Sats]
 |_+1,[],[],_=>trivial
 |n+1,_::_,_::_,h=>⟨h.1,Sats.take n h.2⟩
 |_+1,[],_::_,h=>h.elim
 |_+1,_::_,[],h=>h.elim
theorem Sats.drop{β:Bm}{H:Heap}: ∀(n:Nat){l:List Atom}{vs:List Value},Sats β H l vs->Sats β H (l.drop n) (vs.drop n)
 |0,_,_,h=>h
 |_+1,[],[],_=>trivial
 |n+1,_::_,_::_,h=>Sats.drop n h.2
 |_+1,[],_::_,h=>h.elim
 |_+1,_::_,[],h=>h.elim
theorem Sats.get{β:Bm}{H:Heap}: ∀{l:List Atom}{vs:List Value}(i:Nat){a:Atom},Sats β H l vs->l[i]?=some a-> ∃v,vs[i]?=some v/\a.sat β H v
 |_::_,_::_,0,_,h,e=>by simp at e;subst e;exact⟨_,rfl,h.1⟩
 |_::_,_::_,i+1,_,h,e=>by simpa using Sats.get i h.2 (by simpa using e)
 |[],_,_,_,_,e=>by simp at e
 |_::_,[],_,_,h,_=>h.elim
theorem Sats.spl{β:Bm}{H:Heap}{l x:List Atom}{vs us:List Value}(off:Nat)(h:Sats β H l vs)(k:Sats β H x us):Sats β H (spl l off x) (Sx.spl vs off us):=by
 unfold Sx.spl;rw[<-Sats.length k];exact(h.take off).append (k.append (h.drop _))
theorem Sats.oneC{β:Bm}{H:Heap}: ∀{l:List Atom}{vs:List Value},Sats β H l vs-> ∀v∈vs,v.oneC=true
 |[],[],_,v,hv=>by simp at hv
 |a::_,u::_,h,v,hv=>by
  rcases q5O.1 hv with rfl|hv
  .exact Atom.sat_one h.1
  .exact Sats.oneC h.2 v hv
 |[],_::_,h,_,_=>h.elim
 |_::_,[],h,_,_=>h.elim
theorem Fm{P:Program}{t:TypeId}{d:TypeDesc}(h:P.underlying t=some d)(w:World):
  (isAgg t).run P w= .ok (match d with| .struct _| .array _ _=>true|_=>false) w:=by
 simp only[isAgg,underlying,q6H,run_program,q6G,h,q6I];cases d<;>rfl
theorem wC{P:Program}{t:TypeId}{i:TypeInfo}(h:P.info? t=some i)(w:World):(typeInfo t).run P w= .ok i w:=by
 simp only[typeInfo,q6H,run_program,q6G,h,q6I]
theorem jO{P:Program}{t:TypeId}{i:TypeInfo}(h:P.info? t=some i)(w:World):(sizeOf t).run P w= .ok i.size w:=by
 simp only[sizeOf,q6H,wC h,q6G,q6I]
theorem qG{P:Program}{t:TypeId}{d:TypeDesc}(h:P.underlying t=some d)(w:World):(underlying t).run P w= .ok d w:=by
 simp only[underlying,q6H,run_program,q6G,h,q6I]
theorem vO{P:Program}{t:TypeId}{i:TypeInfo}{z:Value}(h:P.info? t=some i)(hz:i.zero=some z)(w:World):(zeroValue t).run P w= .ok z w:=by
 simp only[zeroValue,q6H,wC h,q6G,hz,q6I]
def jl(P:Program)(t:TypeId):Option (Bool×Nat):=
 match P.underlying t,P.info? t with
 |some (.struct _),some i=>some (true,i.size)
 |some (.array _ _),some i=>some (true,i.size)
 |some _,some i=>some (false,i.size)
 |_,_=>none
theorem wD{P:Program}{t:TypeId}{g:Bool}{s:Nat}(h:jl P t=some (g,s))(w:World):
  (isAgg t).run P w= .ok g w/\(sizeOf t).run P w= .ok s w:=by
 unfold jl at h;split at h
 .rename_i h1 h2;simp at h;obtain⟨rfl,rfl⟩:=h;exact⟨Fm h1 w,jO h2 w⟩
 .rename_i h1 h2;simp at h;obtain⟨rfl,rfl⟩:=h;exact⟨Fm h1 w,jO h2 w⟩
 .rename_i d i hne1 hne2 h1 h2
  simp at h;obtain⟨rfl,rfl⟩:=h
  refine⟨?_,jO h2 w⟩;rw[Fm h1 w];cases d<;>first|rfl|exact(hne1 _ rfl).elim|exact(hne2 _ _ rfl).elim
 .cases h
theorem wj{P:Program}{t:TypeId}{s:Nat}(h:jl P t=some (true,s)){w:World}{b off:Nat}{arr:Array Value}{T:TypeId}{fz:Nat×Nat}
  (hb:w.heap[b]?=some (.cells arr T fz))(hl:off+s<=arr.size):(loadVar t ⟨b,off,none⟩).run P w= .ok (.agg ((arr.toList.drop off).take s).toArray) w:=by
 obtain⟨h1,h2⟩:=wD h w;have hlen:((arr.toList.drop off).take s).length=s:=by simp;omega
 have:=run_loadCells_list (P:=P) w ⟨b,off,none⟩ ((arr.toList.drop off).take s) (by
  intro j v hv;rw[vk,Cd hb]
  have hj:j<s:=by
   rcases q6h j s with h'|h'
   .exact h'
   .rw[q5D (by omega)]at hv;cases hv
  rw[q5E hj,q5B]at hv
  simpa using hv)
 rw[hlen]at this;simp only[loadVar,q6H,h1,q6G,if_true,h2,this,q6I]
theorem zG{P:Program}{t:TypeId}{s:Nat}(h:jl P t=some (false,s)){w:World}{b off:Nat}{arr:Array Value}{T:TypeId}{fz:Nat×Nat}{v:Value}
  (hb:w.heap[b]?=some (.cells arr T fz))(hv:arr[off]?=some v):(loadVar t ⟨b,off,none⟩).run P w= .ok v w:=by
 obtain⟨h1,h2⟩:=wD h w;simp only[loadVar,q6H,h1,q6G,q5n,if_false,run_load,Cd hb,hv]
theorem Km(v:Value):v.oneCell'=v.oneC:=by cases v<;>rfl
structure SetArr (w:World) (b:Nat) (arr:Array Value) (T:TypeId) (w':World):Prop where
 os:w'.os=w.os
 tape:w'.tape=w.tape
 output:w'.output=w.output
 size:w'.heap.size=w.heap.size
 other: ∀b',b'≠b->w'.heap[b']?=w.heap[b']?
 at_:w'.heap[b]?=some (.cells arr T (0,0))
theorem wB{P:Program}{b:Nat}{T:TypeId}: ∀(vs:List Value)(off i:Nat)(w:World)(arr:Array Value),w.heap[b]?=some (.cells arr T (0,0))->
  (∀v∈vs,v.oneC=true)->off+i+vs.length<=arr.size->
  ∃w',(storeCells ⟨b,off,none⟩ vs i).run P w= .ok () w'/\SetArr w b (spl arr.toList (off+i) vs).toArray T w'
 |[],off,i,w,arr,hb,_,_=>by
  refine⟨w,by simp[storeCells],rfl,rfl,rfl,rfl,λ_ _=>rfl,?_⟩;rw[hb];simp[spl]
 |v::vs,off,i,w,arr,hb,ho,hl=>by
  have hlt:off+i<arr.size:=by simp at hl;omega
  have hc:w.cell? ⟨b,off+i,none⟩=some arr[off+i]:=by rw[Cd hb];exact Array.getElem?_eq_getElem hlt
  have hset:(w.setCell ⟨b,off+i,none⟩ v).heap[b]?=some (.cells (arr.setIfInBounds (off+i) v) T (0,0)):=by
   simp[World.setCell,Array.getElem?_modify,hb]
  obtain⟨w',h1,h2⟩:=wB (P:=P) vs off (i+1) (w.setCell ⟨b,off+i,none⟩ v) (arr.setIfInBounds (off+i) v) hset
   (λu hu=>ho u (q5P _ hu)) (by simp at hl⊢;omega)
  refine⟨w',?_,?_⟩
  .rw[storeCells,vk]
   simp only[q6H];rw[run_store P w _ v _ (by rw[Km];exact ho v q5Q),hc];simp only[QC hb,q5n,if_false,q6G];exact h1
  .have e:(spl (arr.setIfInBounds (off+i) v).toList (off+(i+1)) vs).toArray=(spl arr.toList (off+i) (v::vs)).toArray:=by
    have e1:(arr.setIfInBounds (off+i) v).toList=arr.toList.set (off+i) v:=by simp
    rw[e1];unfold spl
    congr 1
    have e2:(arr.toList.set (off+i) v).take (off+(i+1))=arr.toList.take (off+i)++[v]:=by
     rw[show off+(i+1)=(off+i)+1 by omega,q60 (by simpa using hlt)];rw[List.take_set,List.getElem_set_self,List.set_eq_of_length_le (by simp;omega)]
    have e3:(arr.toList.set (off+i) v).drop (off+(i+1)+vs.length)=arr.toList.drop (off+i+(v::vs).length):=by
     rw[q6W (by omega)]
     congr 1
     simp;omega
    rw[e2,e3];simp
   rw[e]at h2;refine⟨by rw[h2.os];rfl,by rw[h2.tape];rfl,by rw[h2.output];rfl,by rw[h2.size];simp,λb' hb'=>?_,h2.at_⟩;rw[h2.other b' hb'];simp only[World.setCell,Array.getElem?_modify];rw[if_neg (λh=>hb' h.symm)]
theorem Fp{P:Program}{t:TypeId}{g:Bool}{s:Nat}(h:jl P t=some (g,s)){b off:Nat}{T:TypeId}{w:World}{arr:Array Value}{v:Value}
  (hb:w.heap[b]?=some (.cells arr T (0,0)))(hs:v.cells.size=s)(ho: ∀u∈v.cells.toList,u.oneC=true)(hl:off+s<=arr.size):
  ∃w',(storeVar t ⟨b,off,none⟩ v).run P w= .ok () w'/\SetArr w b (spl arr.toList off v.cells.toList).toArray T w':=by
 obtain⟨_,h2⟩:=wD h w;obtain⟨w',h3,h4⟩:=wB (P:=P) v.cells.toList off 0 w arr hb ho (by simpa[hs]using hl);refine⟨w',?_,by simpa using h4⟩;simp only[storeVar,q6H,h2,q6G,hs,ne_eq,not_true_eq_false,if_false];simpa using h3
theorem Step.setArr{w:World}{H:Heap}{β:Bm}{k b c:Nat}{arr':Array Value}{T:TypeId}{w':World}(h:SetArr w b arr' T w')(hβ:β k=some (b,c))(hH:H b=none)(hon:Heap.On H w):
  Step w H β [k] [] [] w' H β:=by
 refine⟨h.os,h.tape,h.output,by rw[h.size];exact q6d _,?_,Heap.Le.refl _,λb hb=> .inl hb,?_,λ_ _=>rfl,λk hk=>by simp at hk,λk hk=>by simp at hk⟩
 .intro b' hb' hk
  refine h.other b' λe=>?_
  subst e;exact hk k (by simp) c hβ
 .intro b' cs hcs
  have hne:b'≠b:=λe=>by subst e;rw[hH]at hcs;cases hcs
  rw[h.other b' hne];exact hon b' cs hcs
def Bm.set(β:Bm)(k:Nat)(x:Option (Nat×Nat)):Bm:=λk'=>if k'=k then x else β k'
theorem Bm.set_same(β:Bm)(k:Nat)(x:Option (Nat×Nat)):β.set k x k=x:=by simp[Bm.set]
theorem Bm.set_other(β:Bm){k k':Nat}(x:Option (Nat×Nat))(h:k'≠k):β.set k x k'=β k':=by simp[Bm.set,h]
theorem Heap.On.lt{H:Heap}{w:World}(h:Heap.On H w){b:Nat}(hb:H b≠none):b<w.heap.size:=by
 cases hc:H b with
 |none=>exact absurd hc hb
 |some cs=>obtain⟨T,fz,e⟩:=h b cs hc;exact(q6L.1 e).1
theorem Heap.On.alloc{H:Heap}{w:World}(h:Heap.On H w)(o:Obj):Heap.On H (w.alloc o):=by
 intro b cs hb;have hlt:=h.lt (b:=b) (by rw[hb];simp);obtain⟨T,fz,e⟩:=h b cs hb;exact⟨T,fz,by show(w.heap.push o)[b]?=_;rw[Array.getElem?_push,if_neg (by omega)];exact e⟩
theorem wG(w:World)(o:Obj):(w.alloc o).heap[w.heap.size]?=some o:=by
 show(w.heap.push o)[w.heap.size]?=_;simp
theorem JL(w:World)(o:Obj){b:Nat}(h:b<w.heap.size):(w.alloc o).heap[b]?=w.heap[b]?:=by
 show(w.heap.push o)[b]?=_;rw[Array.getElem?_push,if_neg (by omega)]
theorem Step.alloc{w:World}{H:Heap}{β:Bm}(d c:Nat)(o:Obj)(hon:Heap.On H w):
  Step w H β [] [d] [] (w.alloc o) H (β.set d (some (w.heap.size,c))):=by
 refine⟨rfl,rfl,rfl,by simp,?_,Heap.Le.refl _,λb hb=> .inl hb,hon.alloc o,?_,?_,?_⟩
 .intro b hb _;exact JL w o hb
 .intro k hk;exact Bm.set_other _ _ (by simpa using hk)
 .intro k hk b c' hb
  have:k=d:=by simpa using hk
  subst this;rw[Bm.set_same]at hb;cases hb;refine⟨?_,.inl (q6d _)⟩
  cases hH:H w.heap.size with
  |none=>rfl
  |some cs=>exact absurd (hon.lt (b:=w.heap.size) (by rw[hH];simp)) (Nat.lt_irrefl _)
 .intro k hk k' hk' hne
  have e1:k=d:=by simpa using hk
  have e2:k'=d:=by simpa using hk'
  exact absurd (e1.trans e2.symm) hne
def Heap.set(H:Heap)(b:Nat)(cs:Array Value):Heap:=λb'=>if b'=b then some cs else H b'
theorem Heap.set_le{H:Heap}{b:Nat}(cs:Array Value)(h:H b=none):Heap.Le H (H.set b cs):=by
 intro b' cs' h';unfold Heap.set;rw[if_neg (λe=>by subst e;rw[h]at h';cases h')];exact h'
theorem Heap.set_at(H:Heap)(b:Nat)(cs:Array Value):H.set b cs b=some cs:=by simp[Heap.set]
theorem Heap.On.none{H:Heap}{w:World}(h:Heap.On H w){b:Nat}(hb:w.heap.size<=b):H b=none:=by
 cases hc:H b with
 |none=>rfl
 |some cs=>have:=h.lt (b:=b) (by rw[hc];simp);omega
theorem Step.new{w:World}{H:Heap}{β:Bm}(arr:Array Value)(T:TypeId)(hon:Heap.On H w):
  Step w H β [] [] [] (w.alloc (.cells arr T)) (H.set w.heap.size arr) β:=by
 have hn:H w.heap.size=none:=hon.none (q6d _);refine⟨rfl,rfl,rfl,by simp,λb hb _=>JL w _ hb,Heap.set_le _ hn,?_,?_,λ_ _=>rfl,λk hk=>by simp at hk,λk hk=>by simp at hk⟩
 .intro b hb
  by_cases e:b=w.heap.size
  .exact .inr (by omega)
  .simp only[Heap.set,if_neg e]at hb;exact .inl hb
 .intro b cs hb
  by_cases e:b=w.heap.size
  .subst e
   rw[Heap.set_at]at hb;cases hb
   exact⟨T,(0,0),wG w _⟩
  .simp only[Heap.set,if_neg e]at hb;exact hon.alloc _ b cs hb
section
variable {P:Program}
theorem qP {op : Op} {ty : TypeId} {ins : List (Operand × AV)} {kin : List (Nat × Blk)} {R : AV}
  (h : ∀ (a : Act) (w : World) (H : Heap) (β : Bm), (∀ p ∈ ins, p.2.sat β H (a.eval p.1)) -> (∀ p ∈ kin, p.2.rep β w H p.1) -> Heap.On H w ->
   ∃ v, R.sat β H v /\ ∀ dst pos after guard, (execOp a.eval ⟨dst, op, ty, pos, after, guard⟩).run P w = .ok (.value v) w) : OpOk P op ty ins kin R [] := by
 intro dst pos after guard a w H β K Q hins hkin _ hon hK;obtain ⟨v, hv, hrun⟩ := h a w H β hins (λp hp => (hkin p hp).1) hon;unfold Oper.wp;rw [hrun];exact hK v w H β (by simpa [kwOf, qX, vg] using Step.refl hon) hv (λk b hb => by simp at hb)
theorem Xr{x:Operand}{ty:TypeId}{v:AV}:OpOk P (.move x) ty [(x,v)] [] v []:=
 qP λa w H β hins _ _=>⟨a.eval x,hins (x,v) (by simp),λ_ _ _ _=>rfl⟩
theorem Rp{x:Operand}{ty:TypeId}{v:AV}:OpOk P (.assign x) ty [(x,v)] [] v []:=
 qP λa w H β hins _ _=>⟨a.eval x,hins (x,v) (by simp),λ_ _ _ _=>rfl⟩
theorem Ga{c x y:Operand}{ty:TypeId}{b:Bool}{u v:AV}:OpOk P (.pick c x y) ty [(c,zx b),(x,u),(y,v)] [] (bif b then u else v) []:=
 qP λa w H β hins _ _=>by
  have h0:=(hins (c,zx b) (by simp)).1;have h1:=hins (x,u) (by simp);have h2:=hins (y,v) (by simp);refine⟨if b then a.eval x else a.eval y,?_,λ_ _ _ _=>?_⟩
  .cases b<;>simpa using ‹_›
  .simp only at h0
   simp only[execOp,h0,asBool,q6H,q6I,q6G]
def vT(l:List Value):Option (List Atom):=bif l.all Value.oneC then some (l.map .val)else none
theorem Bc{β:Bm}{H:Heap}{l:List Value}{az:List Atom}(h:vT l=some az):Sats β H az l:=by
 unfold vT at h
 cases hb:l.all Value.oneC with
 |false=>rw[hb]at h;cases h
 |true=>
  rw[hb]at h;simp at h;subst h
  rw[q6N]at hb
  induction l with
  |nil=>trivial
  |cons v l ih=>exact⟨⟨rfl,hb v q5Q⟩,ih λu hu=>hb u (q5P _ hu)⟩
theorem If(T:TypeId)(v:Value)(w:World):(newVar T v).run P w= .ok ⟨w.heap.size,0,none⟩ (w.alloc (.cells v.cells T)):=by
 simp only[newVar,newRow,q6H,run_newObj,q6G,q6I];rfl
theorem Ru {op : Op} {ty : TypeId} {ins : List (Operand × AV)} {d c : Nat} {cs : List Atom} {R : AV} {T : TypeId}
  (h : ∀ (a : Act) (w : World) (H : Heap) (β : Bm), (∀ p ∈ ins, p.2.sat β H (a.eval p.1)) ->
   ∃ v arr, (∀ β', β' d = some (w.heap.size, c) -> R.sat β' H v) /\ Sats β H cs arr.toList /\
   ∀ dst pos after guard, (execOp a.eval ⟨dst, op, ty, pos, after, guard⟩).run P w = .ok (.value v) (w.alloc (.cells arr T)))
  (hm : jA d cs = false) : OpOk P op ty ins [] R [(d, some (.rigid cs))] := by
 intro dst pos after guard a w H β K Q hins _ _ hon hK;obtain ⟨v, arr, hv, hcs, hrun⟩ := h a w H β hins;unfold Oper.wp;rw [hrun];refine hK v _ H (β.set d (some (w.heap.size, c))) ?_ (hv _ (Bm.set_same _ _ _)) ?_
 .simpa [kwOf, qX, vg, look] using Step.alloc (β := β) d c (.cells arr T) hon
 .intro k b hb
  simp only [q5U, q6F, q6E] at hb;obtain ⟨rfl, rfl⟩ := hb;refine ⟨w.heap.size, c, arr, T, Bm.set_same _ _ _, wG w _, Sats.congr (Heap.Le.refl _) (λk' hk' => ?_) hcs⟩;refine Bm.set_other _ _ λe => ?_
  subst e; rw [hm] at hk'; cases hk'
theorem Te{t ty:TypeId}{d:Nat}{i:TypeInfo}{z:Value}{cs:List Atom}(hi:P.info? t=some i)(hz:i.zero=some z)(hcs:vT z.cells.toList=some cs):
  OpOk P (.alloc t) ty [] [] (.c (.one (.loc d 0))) [(d,some (.rigid cs))]:=by
 refine Ru (c:=0) (T:=t) (λa w H β _=>⟨.pointer (some ⟨w.heap.size,0,none⟩),z.cells,λβ' hβ=>⟨_,_,hβ,rfl⟩,Bc hcs,λ_ _ _ _=>?_⟩) ?_
 .simp only[execOp,Instr.alloc,q6H,vO hi hz,q6G,If,q6I]
 .unfold vT at hcs
  cases hb:z.cells.toList.all Value.oneC with
  |false=>rw[hb]at hcs;cases hcs
  |true=>
   rw[hb]at hcs;simp at hcs;subst hcs
   induction z.cells.toList with
   |nil=>rfl
   |cons u l ih=>simp[jA,Atom.men,ih]
theorem q2g{t ty:TypeId}{d:Nat}{x:Operand}{v:Cmp}(hm:jA d v.cells=false):
  OpOk P (.box t x) ty [(x,.c v)] [] (.c (.one (.loc d 0))) [(d,some (.rigid v.cells))]:=by
 refine Ru (c:=0) (T:=t) (λa w H β hins=>⟨.pointer (some ⟨w.heap.size,0,none⟩),(a.eval x).cells,λβ' hβ=>⟨_,_,hβ,rfl⟩,Cmp.sat_cells (hins (x,.c v) (by simp)),λ_ _ _ _=>?_⟩) hm;simp only[execOp,Instr.box,q6H,q6G,If,q6I]
theorem GD{t ty:TypeId}{x:Operand}{k off s:Nat}{cs l:List Atom}(hs:jl P t=some (true,s))(hl:(cs.drop off).take s=l)(hn:off+s<=cs.length):
  OpOk P (.load t x) ty [(x,.c (.one (.loc k off)))] [(k,.rigid cs)] (.c (.agg l)) []:=
 qP λa w H β hins hkin _=>by
  obtain⟨b,c,hβ,hx⟩:=hins _ q5Q;obtain⟨b',c',arr,T,hβ',hb,hsat⟩:=hkin _ q5Q;simp only at hβ hx hβ' hsat;rw[hβ]at hβ';cases hβ'
  have hlen:=Sats.length hsat;refine⟨.agg ((arr.toList.drop off).take s).toArray,⟨_,rfl,by subst hl;simpa using(hsat.drop off).take s⟩,λ_ _ _ _=>?_⟩
  simp only[execOp,Instr.loadAt,hx,Instr.sureAddr,q6H,q6I,q6G,
   wj hs hb (off:=off) (by simp at hlen;omega)]
theorem GE{t ty:TypeId}{x:Operand}{k off s:Nat}{cs:List Atom}{u:Atom}(hs:jl P t=some (false,s))(hl:cs[off]?=some u):
  OpOk P (.load t x) ty [(x,.c (.one (.loc k off)))] [(k,.rigid cs)] (.c (.one u)) []:=
 qP λa w H β hins hkin _=>by
  obtain⟨b,c,hβ,hx⟩:=hins _ q5Q;obtain⟨b',c',arr,T,hβ',hb,hsat⟩:=hkin _ q5Q;simp only at hβ hx hβ' hsat;rw[hβ]at hβ';cases hβ'
  obtain⟨v,hv,hu⟩:=Sats.get off hsat hl;refine⟨v,hu,λ_ _ _ _=>?_⟩
  simp only[execOp,Instr.loadAt,hx,Instr.sureAddr,q6H,q6I,q6G,
   zG hs hb (off:=off) (by simpa using hv)]
theorem Mh{t ty:TypeId}{x:Operand}{k off s es:Nat}{cs:List Atom}{u:Atom}(hs:jl P t=some (false,s))(hl:cs[off]?=some u):
  OpOk P (.load t x) ty [(x,.c (.one (.loc k off)))] [(k,.grow es cs)] (.c (.one u)) []:=
 qP λa w H β hins hkin _=>by
  obtain⟨b,c,hβ,hx⟩:=hins _ q5Q;rcases hkin _ q5Q with⟨hβ',rfl⟩|⟨b',c',arr,T,hβ',hb,_,hle,hsat⟩
  .simp at hl
  simp only at hβ hx hβ' hsat;rw[hβ]at hβ';cases hβ'
  obtain⟨v,hv,hu⟩:=Sats.get off hsat hl
  have hlt:off<cs.length:=by
   rcases q6h off cs.length with h|h
   .exact h
   .rw[q5D h]at hl;cases hl
  rw[q5E hlt]at hv;refine⟨v,hu,λ_ _ _ _=>?_⟩
  simp only[execOp,Instr.loadAt,hx,Instr.sureAddr,q6H,q6I,q6G,
   zG hs hb (off:=off) (by simpa using hv)]
theorem Hb{t ty:TypeId}{x:Operand}{k off s es:Nat}{cs l:List Atom}(hs:jl P t=some (true,s))(hl:(cs.drop off).take s=l)(hn:off+s<=cs.length):
  OpOk P (.load t x) ty [(x,.c (.one (.loc k off)))] [(k,.grow es cs)] (.c (.agg l)) []:=
 qP λa w H β hins hkin _=>by
  obtain⟨b,c,hβ,hx⟩:=hins _ q5Q;rcases hkin _ q5Q with⟨hβ',rfl⟩|⟨b',c',arr,T,hβ',hb,_,hle,hsat⟩
  .simp only at hβ hβ';rw[hβ]at hβ';cases hβ'
  simp only at hβ hx hβ' hsat;rw[hβ]at hβ';cases hβ'
  refine⟨.agg ((arr.toList.drop off).take s).toArray,⟨_,rfl,?_⟩,λ_ _ _ _=>?_⟩
  .subst hl
   have:=(hsat.drop off).take s;rw[List.drop_take,q61,q6i (by omega)]at this;simpa using this
  .simp only[execOp,Instr.loadAt,hx,Instr.sureAddr,q6H,q6I,q6G,
    wj hs hb (off:=off) (by omega)]
theorem CSats.get{H:Heap}: ∀{l:List CAtom}{vs:List Value}(i:Nat){a:CAtom},CSats H l vs->l[i]?=some a-> ∃v,vs[i]?=some v/\a.sat H v
 |_::_,_::_,0,_,h,e=>by simp at e;subst e;exact⟨_,rfl,h.1⟩
 |_::_,_::_,i+1,_,h,e=>by simpa using CSats.get i h.2 (by simpa using e)
 |[],_,_,_,_,e=>by simp at e
 |_::_,[],_,_,h,_=>h.elim
theorem CSats.take{H:Heap}: ∀(n:Nat){l:List CAtom}{vs:List Value},CSats H l vs->CSats H (l.take n) (vs.take n)
 |0,_,_,_=>by simp[CSats]
 |_+1,[],[],_=>trivial
 |n+1,_::_,_::_,h=>⟨h.1,CSats.take n h.2⟩
 |_+1,[],_::_,h=>h.elim
 |_+1,_::_,[],h=>h.elim
theorem CSats.drop{H:Heap}: ∀(n:Nat){l:List CAtom}{vs:List Value},CSats H l vs->CSats H (l.drop n) (vs.drop n)
 |0,_,_,h=>h
 |_+1,[],[],_=>trivial
 |n+1,_::_,_::_,h=>CSats.drop n h.2
 |_+1,[],_::_,h=>h.elim
 |_+1,_::_,[],h=>h.elim
theorem CAtom.up_sat{β:Bm}{H:Heap}{a:CAtom}{v:Value}(h:a.sat H v):a.up.sat β H v:=by cases a<;>exact h
theorem CSats.up{β:Bm}{H:Heap}: ∀{l:List CAtom}{vs:List Value},CSats H l vs->Sats β H (l.map CAtom.up) vs
 |[],[],_=>trivial
 |_::_,_::_,h=>⟨CAtom.up_sat h.1,CSats.up h.2⟩
 |[],_::_,h=>h.elim
 |_::_,[],h=>h.elim
theorem Il{t ty:TypeId}{x:Operand}{s:Nat}{u:CAtom}{l:List CAtom}(hs:jl P t=some (false,s)):
  OpOk P (.load t x) ty [(x,.c (.one (.ptr (u::l))))] [] (.c (.one u.up)) []:=
 qP λa w H β hins _ hon=>by
  obtain⟨b,off,arr,hx,hb,hsat⟩:=hins _ q5Q;simp only at hx hsat;obtain⟨T,fz,hw⟩:=hon b arr hb;obtain⟨v,hv,hu⟩:=CSats.get 0 hsat rfl;rw[q5E (by simp),q5B]at hv;refine⟨v,CAtom.up_sat hu,λ_ _ _ _=>?_⟩
  simp only[execOp,Instr.loadAt,hx,Instr.sureAddr,q6H,q6I,q6G,
   zG hs hw (off:=off) (by simpa using hv)]
theorem Ik{t ty:TypeId}{x:Operand}{s:Nat}{l:List CAtom}{r:List Atom}(hs:jl P t=some (true,s))(hl:(l.take s).map CAtom.up=r)(hn:s<=l.length)(h0:0<s):
  OpOk P (.load t x) ty [(x,.c (.one (.ptr l)))] [] (.c (.agg r)) []:=
 qP λa w H β hins _ hon=>by
  obtain⟨b,off,arr,hx,hb,hsat⟩:=hins _ q5Q;simp only at hx hsat;obtain⟨T,fz,hw⟩:=hon b arr hb;have hlen:=CSats.length hsat;simp at hlen;refine⟨.agg ((arr.toList.drop off).take s).toArray,⟨_,rfl,?_⟩,λ_ _ _ _=>?_⟩
  .subst hl
   have:=(hsat.take s).up (β:=β);rw[q61,q6i hn]at this;simpa using this
  .simp only[execOp,Instr.loadAt,hx,Instr.sureAddr,q6H,q6I,q6G,
    wj hs hw (off:=off) (by omega)]
theorem Hc{t ty:TypeId}{x y:Operand}{k off s:Nat}{g:Bool}{cs:List Atom}{v:Cmp}(hs:jl P t=some (g,s))(hv:v.cells.length=s)(hn:off+s<=cs.length):
  OpOk P (.store t x y) ty [(x,.c (.one (.loc k off))),(y,.c v)] [(k,.rigid cs)] E6 [(k,some (.rigid (spl cs off v.cells)))]:=by
 intro dst pos after guard a w H β K Q hins hkin _ hon hK;obtain⟨b,c,hβ,hx⟩:=hins _ q5Q;obtain⟨⟨b',c',arr,T,hβ',hb,hsat⟩,hown⟩:=hkin _ q5Q;simp only at hβ hx hβ' hsat hown;rw[hβ]at hβ';cases hβ'
 have hy:v.sat β H (a.eval y):=hins (y,.c v) (by simp);have hyc:=Cmp.sat_cells hy;have hlen:=Sats.length hsat;have hylen:=Sats.length hyc;simp at hlen hylen;obtain⟨w',hrun,hset⟩:=Fp hs (off:=off) (v:=a.eval y) hb (by omega) (Sats.oneC hyc) (by omega);unfold Oper.wp
 have:(execOp a.eval ⟨dst,.store t x y,ty,pos,after,guard⟩).run P w= .ok .skip w':=by
  simp only[execOp,Instr.storeAt,hx,Instr.sureAddr,q6H,q6I,q6G,hrun]
 rw[this];refine hK undef w' H β ?_ (Dq _ _) ?_
 .simpa[kwOf,qX,vg,look]using Step.setArr hset hβ (hown b c hβ).1 hon
 .intro k' b' hb'
  simp only[q5U,q6F,q6E]at hb';obtain⟨rfl,rfl⟩:=hb';exact⟨b,c,_,T,hβ,hset.at_,by simpa using hsat.spl off hyc⟩
theorem Kl{t ty:TypeId}{x y:Operand}{k off s es:Nat}{g:Bool}{cs:List Atom}{v:Cmp}(hs:jl P t=some (g,s))(hv:v.cells.length=s)(hn:off+s<=cs.length):
  OpOk P (.store t x y) ty [(x,.c (.one (.loc k off))),(y,.c v)] [(k,.grow es cs)] E6 [(k,some (.grow es (spl cs off v.cells)))]:=by
 intro dst pos after guard a w H β K Q hins hkin _ hon hK;obtain⟨b,c,hβ,hx⟩:=hins _ q5Q;obtain⟨hrep,hown⟩:=hkin _ q5Q;rcases hrep with⟨hβ',_⟩|⟨b',c',arr,T,hβ',hb,hcap,hle,hsat⟩
 .simp only at hβ hβ';rw[hβ]at hβ';cases hβ'
 simp only at hβ hx hβ' hsat hown;rw[hβ]at hβ';cases hβ'
 have hy:v.sat β H (a.eval y):=hins (y,.c v) (by simp);have hyc:=Cmp.sat_cells hy;have hylen:=Sats.length hyc;simp at hylen;obtain⟨w',hrun,hset⟩:=Fp hs (off:=off) (v:=a.eval y) hb (by omega) (Sats.oneC hyc) (by omega);unfold Oper.wp
 have:(execOp a.eval ⟨dst,.store t x y,ty,pos,after,guard⟩).run P w= .ok .skip w':=by
  simp only[execOp,Instr.storeAt,hx,Instr.sureAddr,q6H,q6I,q6G,hrun]
 rw[this];have hspl:(spl cs off v.cells).length=cs.length:=by simp[spl];omega
 have hsplv:(spl arr.toList off (a.eval y).cells.toList).length=arr.size:=by simp[spl];omega
 refine hK undef w' H β ?_ (Dq _ _) ?_
 .simpa[kwOf,qX,vg,look]using Step.setArr hset hβ (hown b c hβ).1 hon
 .intro k' b' hb'
  simp only[q5U,q6F,q6E]at hb';obtain⟨rfl,rfl⟩:=hb';refine .inr ⟨b,c,_,T,hβ,hset.at_,by simpa[hsplv]using hcap,by simp[hspl,hsplv];omega,?_⟩;have h1:=hsat.spl off hyc
  have h2:(spl arr.toList off (a.eval y).cells.toList).take (spl cs off v.cells).length=spl (arr.toList.take cs.length) off (a.eval y).cells.toList:=by
   rw[hspl];unfold spl;rw[List.take_append,List.take_append,q61,List.drop_take];have e1:min cs.length off=off:=by omega
   have e2:min off cs.length=off:=by omega
   simp[q5L];have e3:min off arr.size=off:=by omega
   rw[e3];have e4:List.take (cs.length-off) (a.eval y).cells.toList=(a.eval y).cells.toList:=q5Z (by simp;omega);rw[e4,e1,q61,e2,Nat.sub_sub]
  have h3:(Array.mk (spl arr.toList off (a.eval y).cells.toList)).toList.take (spl cs off v.cells).length=spl (arr.toList.take cs.length) off (a.eval y).cells.toList:=h2;simpa[h2]using h1
end
end
section
section
variable {P:Program}
def wy(P:Program)(s:TypeId)(f:Nat):Option (Nat×TypeId×Nat):=
 match P.underlying s with
 |some (.struct fs)=>match fs[f]? with
  |some fd=>match P.info? fd.type with
   |some i=>some (fd.offset,fd.type,i.size)
   |none=>none
  |none=>none
 |_=>none
theorem CE{s:TypeId}{f fo:Nat}{ft:TypeId}{sz:Nat}(h:wy P s f=some (fo,ft,sz)):
  ∃fs fd i,P.underlying s=some (.struct fs)/\fs[f]?=some fd/\fd.offset=fo/\fd.type=ft/\P.info? ft=some i/\i.size=sz:=by
 unfold wy at h;split at h
 .rename_i fs h1
  split at h
  .rename_i fd h2
   split at h
   .rename_i i h3
    simp at h;obtain⟨rfl,rfl,rfl⟩:=h;exact⟨fs,fd,i,h1,h2,rfl,rfl,h3,rfl⟩
   .cases h
  .cases h
 .cases h
theorem GH{s:TypeId}{f fo:Nat}{ft:TypeId}{sz:Nat}(h:wy P s f=some (fo,ft,sz))(hz:sz≠0)(b off:Nat)(w:World):
  (Instr.fieldAt s (.pointer (some ⟨b,off,none⟩)) f).run P w= .ok (.pointer (some ⟨b,off+fo,none⟩)) w:=by
 obtain⟨fs,fd,i,h1,h2,h3,h4,h5,h6⟩:=CE h;have h7:P.info? fd.type=some i:=by rw[h4];exact h5
 have h8:i.size≠0:=by rw[h6];exact hz
 simp only[Instr.fieldAt,q6H,qG h1,q6G,h2,Instr.sureAddr,q6I,fieldPlace,jO h7,h8,if_false,vk,h3]
theorem CL{s ty:TypeId}{x:Operand}{k off f fo:Nat}{ft:TypeId}{sz:Nat}(h:wy P s f=some (fo,ft,sz))(hz:sz≠0):
  OpOk P (.fieldAddr s x f) ty [(x,.c (.one (.loc k off)))] [] (.c (.one (.loc k (off+fo)))) []:=
 qP λa w H β hins _ _=>by
  obtain⟨b,c,hβ,hx⟩:=hins _ q5Q;simp only at hβ hx;refine⟨_,⟨b,c,hβ,rfl⟩,λ_ _ _ _=>?_⟩;simp only[execOp,hx,q6H,GH h hz,q6G,q6I]
theorem CSats.drop_take{H:Heap}{l:List CAtom}{vs:List Value}{off n:Nat}(h:CSats H l ((vs.drop off).take l.length)):CSats H (l.drop n) ((vs.drop (off+n)).take (l.drop n).length):=by
 have:=h.drop n;rw[List.drop_take,q5t]at this;simpa using this
theorem H9{s ty:TypeId}{x:Operand}{l:List CAtom}{f fo:Nat}{ft:TypeId}{sz:Nat}(h:wy P s f=some (fo,ft,sz))(hz:sz≠0):
  OpOk P (.fieldAddr s x f) ty [(x,.c (.one (.ptr l)))] [] (.c (.one (.ptr (l.drop fo)))) []:=
 qP λa w H β hins _ _=>by
  obtain⟨b,off,arr,hx,hb,hsat⟩:=hins _ q5Q;simp only at hx hsat;refine⟨_,⟨b,off+fo,arr,rfl,hb,hsat.drop_take⟩,λ_ _ _ _=>?_⟩;simp only[execOp,hx,q6H,GH h hz,q6G,q6I]
theorem Fn{t:TypeId}{s off:Nat}{cs:Array Value}(h:jl P t=some (true,s))(w:World):(part t cs off).run P w= .ok (.agg (cs.extract off (off+s))) w:=by
 obtain⟨h1,h2⟩:=wD h w;simp only[part,q6H,h1,q6G,if_true,h2,q6I]
theorem Fo{t:TypeId}{s off:Nat}{cs:Array Value}{v:Value}(h:jl P t=some (false,s))(hv:cs[off]?=some v)(w:World):(part t cs off).run P w= .ok v w:=by
 obtain⟨h1,h2⟩:=wD h w;simp only[part,q6H,h1,q6G,q5n,if_false,hv,q6I]
theorem Mg{s ty:TypeId}{x:Operand}{l:List Atom}{f fo:Nat}{ft:TypeId}{sz:Nat}{u:Atom}(h:wy P s f=some (fo,ft,sz))(hs:jl P ft=some (false,sz))(hu:l[fo]?=some u):
  OpOk P (.field s x f) ty [(x,.c (.agg l))] [] (.c (.one u)) []:=
 qP λa w H β hins _ _=>by
  obtain⟨arr,hx,hsat⟩:=hins _ q5Q;simp only at hx;obtain⟨fs,fd,i,h1,h2,h3,h4,h5,h6⟩:=CE h;obtain⟨v,hv,hsv⟩:=Sats.get fo hsat hu;refine⟨v,hsv,λ_ _ _ _=>?_⟩;simp only[execOp,Instr.field,hx,asAgg,q6H,qG h1,q6G,h2,q6I,h4,h3];rw[Fo hs (by simpa using hv)];rfl
theorem Mf{s ty:TypeId}{x:Operand}{l r:List Atom}{f fo:Nat}{ft:TypeId}{sz:Nat}(h:wy P s f=some (fo,ft,sz))(hs:jl P ft=some (true,sz))(hr:(l.drop fo).take sz=r):
  OpOk P (.field s x f) ty [(x,.c (.agg l))] [] (.c (.agg r)) []:=
 qP λa w H β hins _ _=>by
  obtain⟨arr,hx,hsat⟩:=hins _ q5Q;simp only at hx;obtain⟨fs,fd,i,h1,h2,h3,h4,h5,h6⟩:=CE h;refine⟨.agg (arr.extract fo (fo+sz)),⟨_,rfl,?_⟩,λ_ _ _ _=>?_⟩
  .subst hr
   have:=(hsat.drop fo).take sz;simpa[Array.toList_extract,List.extract_eq_take_drop]using this
  .simp only[execOp,Instr.field,hx,asAgg,q6H,qG h1,q6G,h2,q6I,h4,h3]
   rw[Fn hs];rfl
theorem AN{t ty e:TypeId}{x y:Operand}{k off n:Nat}{kk:IntKind}{i:Int}{ie:TypeInfo}(h:P.underlying t=some (.array n e))(he:P.info? e=some ie)(h0:0<=i)(h1:i<n):
  OpOk P (.indexAddr t x y) ty [(x,.c (.one (.loc k off))),(y,qo kk i)] [] (.c (.one (.loc k (off+i.toNat*ie.size)))) []:=
 qP λa w H β hins _ _=>by
  obtain⟨b,c,hβ,hx⟩:=hins _ q5Q;have hy:=(hins (y,qo kk i) (by simp)).1;simp only at hβ hx hy;refine⟨_,⟨b,c,hβ,rfl⟩,λ_ _ _ _=>?_⟩;have hc:0<=i/\i<(n:Int):=⟨h0,h1⟩;simp only[execOp,Instr.indexAt,hx,hy,asIntOf,q6H,q6I,qG h,q6G,Instr.sureAddr,hc,and_self,if_true,jO he,vk]
theorem Gx{t ty e:TypeId}{x y:Operand}{l:List CAtom}{n:Nat}{kk:IntKind}{i:Int}{ie:TypeInfo}(h:P.underlying t=some (.array n e))(he:P.info? e=some ie)(h0:0<=i)(h1:i<n):
  OpOk P (.indexAddr t x y) ty [(x,.c (.one (.ptr l))),(y,qo kk i)] [] (.c (.one (.ptr (l.drop (i.toNat*ie.size))))) []:=
 qP λa w H β hins _ _=>by
  obtain⟨b,off,arr,hx,hb,hsat⟩:=hins _ q5Q;have hy:=(hins (y,qo kk i) (by simp)).1;simp only at hx hsat hy;refine⟨_,⟨b,off+i.toNat*ie.size,arr,rfl,hb,hsat.drop_take⟩,λ_ _ _ _=>?_⟩;have hc:0<=i/\i<(n:Int):=⟨h0,h1⟩;simp only[execOp,Instr.indexAt,hx,hy,asIntOf,q6H,q6I,qG h,q6G,Instr.sureAddr,hc,and_self,if_true,jO he,vk]
theorem wv{t e:TypeId}{ie:TypeInfo}(h:P.underlying t=some (.slice e))(he:P.info? e=some ie){b off len cap:Nat}{kk:IntKind}{i:Int}(h0:0<=i)(h1:i<len)(w:World):
  (Instr.indexAt t (.slice (some ⟨b,off,none⟩) len cap) (.int kk i)).run P w= .ok (.pointer (some ⟨b,off+i.toNat*ie.size,none⟩)) w:=by
 have hc:0<=i/\i<(len:Int):=⟨h0,h1⟩;simp only[Instr.indexAt,asIntOf,q6H,q6I,qG h,q6G,hc,and_self,if_true,jO he,vk]
theorem Ij{t ty e:TypeId}{x y:Operand}{k off len cap:Nat}{kk:IntKind}{i:Int}{ie:TypeInfo}(h:P.underlying t=some (.slice e))(he:P.info? e=some ie)(h0:0<=i)(h1:i<len):
  OpOk P (.indexAddr t x y) ty [(x,.c (.one (.sl k off len cap))),(y,qo kk i)] [] (.c (.one (.loc k (off+i.toNat*ie.size)))) []:=
 qP λa w H β hins _ _=>by
  obtain⟨b,c,hβ,hx⟩:=hins _ q5Q;have hy:=(hins (y,qo kk i) (by simp)).1;simp only at hβ hx hy;refine⟨_,⟨b,c,hβ,rfl⟩,λ_ _ _ _=>?_⟩;simp only[execOp,hx,hy,q6H,wv h he h0 h1,q6G,q6I]
theorem Ii{t ty e:TypeId}{x y:Operand}{k len:Nat}{kk:IntKind}{i:Int}{ie:TypeInfo}(h:P.underlying t=some (.slice e))(he:P.info? e=some ie)(h0:0<=i)(h1:i<len):
  OpOk P (.indexAddr t x y) ty [(x,.c (.one (.gs k len))),(y,qo kk i)] [] (.c (.one (.loc k (i.toNat*ie.size)))) []:=
 qP λa w H β hins _ _=>by
  have hx':=hins _ q5Q;have hy:=(hins (y,qo kk i) (by simp)).1;simp only at hy;rcases hx' with⟨_,hn,_⟩|⟨b,c,hβ,hx⟩
  .omega
  simp only at hx;refine⟨_,⟨b,c,hβ,rfl⟩,λ_ _ _ _=>?_⟩;simp only[execOp,hx,hy,q6H,wv h he h0 h1,q6G,q6I,q6z]
def Kt(A:Pred)(es:Nat)(i:Int)(row:List CAtom):Prop:=
 ∀H v,A.p H v-> ∃b off len cap arr,v= .slice (some ⟨b,off,none⟩) len cap/\0<=i/\i<(len:Int)/\H b=some arr/\CSats H row ((arr.toList.drop (off+i.toNat*es)).take row.length)
theorem Ha{t ty e:TypeId}{x y:Operand}{A:Pred}{kk:IntKind}{i:Int}{ie:TypeInfo}{row:List CAtom}(h:P.underlying t=some (.slice e))(he:P.info? e=some ie)(hA:Kt A ie.size i row):
  OpOk P (.indexAddr t x y) ty [(x,.c (.one (.abs A))),(y,qo kk i)] [] (.c (.one (.ptr row))) []:=
 qP λa w H β hins _ _=>by
  have hx':A.p H (a.eval x):=hins _ q5Q;have hy:=(hins (y,qo kk i) (by simp)).1;simp only at hy;obtain⟨b,off,len,cap,arr,hx,h0,h1,hb,hsat⟩:=hA H _ hx';refine⟨_,⟨b,off+i.toNat*ie.size,arr,rfl,hb,hsat⟩,λ_ _ _ _=>?_⟩;simp only[execOp,hx,hy,q6H,wv h he h0 h1,q6G,q6I]
theorem XU{t ty e:TypeId}(h:P.underlying t=some (.slice e))(x:Option Addr)(n c:Nat)(w:World):(Builtin.len_ #[t] ty #[.slice x n c]).run P w= .ok (.int .i64 n) w:=by
 simp[Builtin.len_,qG h,goInt]
theorem Ff{t ty e:TypeId}{x:Operand}{u:Atom}{n:Nat}(h:P.underlying t=some (.slice e))(hu: ∀β H v,u.sat β H v-> ∃a c,v= .slice a n c):
  OpOk P (.call {callee:= .builtin .len,args:= #[x],argTypes:= #[t]}) ty [(x,.c (.one u))] [] (qo .i64 n) []:=
 qP λa w H β hins _ _=>by
  obtain⟨p,c,hx⟩:=hu β H _ (hins _ q5Q);simp only at hx;refine⟨.int .i64 n,⟨rfl,rfl⟩,λ_ _ _ _=>?_⟩;simp only[execOp,resolve,q6H,q6I,q6G,invoke,builtin,List.map_toArray,q5M,List.map_nil,hx,XU h]
theorem q1T(k off n c:Nat): ∀β H v,(Atom.sl k off n c).sat β H v-> ∃a c,v= .slice a n c:=λ_ _ _⟨_,_,_,h⟩=>⟨_,_,h⟩
theorem q1S(k n:Nat): ∀β H v,(Atom.gs k n).sat β H v-> ∃a c,v= .slice a n c:=λ_ _ _ h=>by
 rcases h with⟨_,rfl,h⟩|⟨_,_,_,h⟩
 .exact⟨_,_,h⟩
 .exact⟨_,_,h⟩
theorem Xe(a:Option Addr)(n c:Nat): ∀β H v,(Atom.val (.slice a n c)).sat β H v-> ∃a c,v= .slice a n c:=λ_ _ _ h=>⟨_,_,h.1⟩
def Ox(A:Pred)(n:Nat):Prop:= ∀H v,A.p H v-> ∃a c,v= .slice a n c
theorem Xd{A:Pred}{n:Nat}(h:Ox A n): ∀β H v,(Atom.abs A).sat β H v-> ∃a c,v= .slice a n c:=λ_ H v hv=>h H v hv
theorem zA{op:BinOp}{t ty yt:TypeId}{x y:Operand}{u v r:Value}(ho:r.oneC=true)
  (h: ∀w,(do eqGuard op t x y u v;binOp op t u v:Sem Value).run P w= .ok r w):
  OpOk P (.binOp op t x y yt) ty [(x,.c (.one (.val u))),(y,.c (.one (.val v)))] [] (.c (.one (.val r))) []:=
 qP λa w H β hins _ _=>by
  have hx:=(hins _ q5Q).1;have hy:=(hins (y,.c (.one (.val v))) (by simp)).1;simp only at hx hy;refine⟨r,⟨rfl,ho⟩,λ_ _ _ _=>?_⟩;have:=h w;simp only[q6H]at this;simp only[execOp,hx,hy,q6H,this,q6G,q6I]
section
variable {t ty yt:TypeId} {x y:Operand} {k:IntKind} {a b r:Int}
theorem q2e(h:k.wrap (a+b)=r):OpOk P (.binOp .add t x y yt) ty [(x,qo k a),(y,qo k b)] [] (qo k r) []:=
 zA rfl λw=>by subst h;simp[eqGuard,binOp,Op.intArith]
theorem Rv(h:k.wrap (a-b)=r):OpOk P (.binOp .sub t x y yt) ty [(x,qo k a),(y,qo k b)] [] (qo k r) []:=
 zA rfl λw=>by subst h;simp[eqGuard,binOp,Op.intArith]
theorem q2o(h:k.wrap (a*b)=r):OpOk P (.binOp .mul t x y yt) ty [(x,qo k a),(y,qo k b)] [] (qo k r) []:=
 zA rfl λw=>by subst h;simp[eqGuard,binOp,Op.intArith]
theorem q2r(hb:b≠0)(h:k.wrap (a.tdiv b)=r):OpOk P (.binOp .quo t x y yt) ty [(x,qo k a),(y,qo k b)] [] (qo k r) []:=
 zA rfl λw=>by subst h;simp[eqGuard,binOp,Op.intDiv,hb]
theorem q2s(hb:b≠0)(h:a.tmod b=r):OpOk P (.binOp .rem t x y yt) ty [(x,qo k a),(y,qo k b)] [] (qo k r) []:=
 zA rfl λw=>by subst h;simp[eqGuard,binOp,Op.intDiv,hb]
theorem q2t{yk:IntKind}(hb:0<=b)(h:k.wrap (a*2^(min b.toNat k.bits))=r):OpOk P (.binOp .shl t x y yt) ty [(x,qo k a),(y,qo yk b)] [] (qo k r) []:=
 zA rfl λw=>by
  subst h;have: ¬b<0:=by omega
  simp[eqGuard,binOp,Op.shift,this]
theorem q2u{yk:IntKind}(hb:0<=b)(h:a.fdiv (2^(min b.toNat k.bits))=r):OpOk P (.binOp .shr t x y yt) ty [(x,qo k a),(y,qo yk b)] [] (qo k r) []:=
 zA rfl λw=>by
  subst h;have: ¬b<0:=by omega
  simp[eqGuard,binOp,Op.shift,this]
theorem q2f(h:k.wrap ((BitVec.ofInt k.bits a&&&BitVec.ofInt k.bits b).toNat)=r):OpOk P (.binOp .and t x y yt) ty [(x,qo k a),(y,qo k b)] [] (qo k r) []:=
 zA rfl λw=>by subst h;simp[eqGuard,binOp,Op.intBits]
theorem q4K(h:k.wrap ((BitVec.ofInt k.bits a|||BitVec.ofInt k.bits b).toNat)=r):OpOk P (.binOp .or t x y yt) ty [(x,qo k a),(y,qo k b)] [] (qo k r) []:=
 zA rfl λw=>by subst h;simp[eqGuard,binOp,Op.intBits]
variable {c:Bool}
theorem q2i(h:(a==b)=c):OpOk P (.binOp .eql t x y yt) ty [(x,qo k a),(y,qo k b)] [] (zx c) []:=
 zA rfl λw=>by subst h;simp[eqGuard,binOp,Op.intCmp]
theorem q2q(h:(a !=b)=c):OpOk P (.binOp .neq t x y yt) ty [(x,qo k a),(y,qo k b)] [] (zx c) []:=
 zA rfl λw=>by subst h;simp[eqGuard,binOp,Op.intCmp]
theorem q2m(h:decide (a<b)=c):OpOk P (.binOp .lss t x y yt) ty [(x,qo k a),(y,qo k b)] [] (zx c) []:=
 zA rfl λw=>by subst h;simp[eqGuard,binOp,Op.intCmp]
theorem q2l(h:decide (a<=b)=c):OpOk P (.binOp .leq t x y yt) ty [(x,qo k a),(y,qo k b)] [] (zx c) []:=
 zA rfl λw=>by subst h;simp[eqGuard,binOp,Op.intCmp]
theorem q2k(h:decide (a>b)=c):OpOk P (.binOp .gtr t x y yt) ty [(x,qo k a),(y,qo k b)] [] (zx c) []:=
 zA rfl λw=>by subst h;simp[eqGuard,binOp,Op.intCmp]
theorem q2j(h:decide (a>=b)=c):OpOk P (.binOp .geq t x y yt) ty [(x,qo k a),(y,qo k b)] [] (zx c) []:=
 zA rfl λw=>by subst h;simp[eqGuard,binOp,Op.intCmp]
end
theorem Hd{t:TypeId}(ht:P.underlying t=some .bool)(p q:Bool)(w:World)(d:Nat):(Op.equalIn (d+1) t (.bool p) (.bool q)).run P w= .ok (p==q) w:=by
 rw[Op.equalIn];simp only[q6H,qG ht,q6G,q6I]
theorem E2{t:TypeId}(ht:P.underlying t=some .bool)(p q:Bool)(w:World):(Op.equal t (.bool p) (.bool q)).run P w= .ok (p==q) w:=
 Hd ht p q w 9999
theorem q2h{t ty yt:TypeId}{x y:Operand}{p q c:Bool}(ht:P.underlying t=some .bool)(h:(p==q)=c):OpOk P (.binOp .eql t x y yt) ty [(x,zx p),(y,zx q)] [] (zx c) []:=
 zA rfl λw=>by
  subst h;show(do eqGuard .eql t x y (.bool p) (.bool q);pure (Value.bool (<-Op.equal t (.bool p) (.bool q))):Sem Value).run P w=_;simp[eqGuard,E2 ht]
theorem q2p{t ty yt:TypeId}{x y:Operand}{p q c:Bool}(ht:P.underlying t=some .bool)(h:(p !=q)=c):OpOk P (.binOp .neq t x y yt) ty [(x,zx p),(y,zx q)] [] (zx c) []:=
 zA rfl λw=>by
  subst h;show(do eqGuard .neq t x y (.bool p) (.bool q);pure (Value.bool (!(<-Op.equal t (.bool p) (.bool q)))):Sem Value).run P w=_;simp[eqGuard,E2 ht,bne]
theorem Mi{t ty:TypeId}{x:Operand}{p c:Bool}(h:(!p)=c):OpOk P (.unOp .not t x) ty [(x,zx p)] [] (zx c) []:=
 qP λa w H β hins _ _=>by
  have hx:=(hins _ q5Q).1;simp only at hx;subst h;exact⟨.bool (!p),⟨rfl,rfl⟩,λ_ _ _ _=>by simp[execOp,hx,Op.unary]⟩
theorem Rt{t ty:TypeId}{x:Operand}{k:IntKind}{n r:Int}(h:k.wrap (0-n)=r):OpOk P (.unOp .neg t x) ty [(x,qo k n)] [] (qo k r) []:=
 qP λa w H β hins _ _=>by
  have hx:=(hins _ q5Q).1;simp only at hx;subst h;exact⟨.int k (k.wrap (0-n)),⟨rfl,rfl⟩,λ_ _ _ _=>by simp[execOp,hx,Op.unary,Op.intArith]⟩
theorem Xq{src dst ty:TypeId}{x:Operand}{k k':IntKind}{n r:Int}{d:TypeDesc}(hs:P.underlying src=some d)(hd:P.underlying dst=some (.int k))(h:k.wrap n=r):
  OpOk P (.convert src dst x) ty [(x,qo k' n)] [] (qo k r) []:=
 qP λa w H β hins _ _=>by
  have hx:=(hins _ q5Q).1;simp only at hx;subst h;refine⟨.int k (k.wrap n),⟨rfl,rfl⟩,λ_ _ _ _=>?_⟩;simp only[execOp,hx,convert,q6H,qG hs,qG hd,q6G];simp[Conv.intToInt]
theorem CmpSats.get{β:Bm}{H:Heap}: ∀{l:List Cmp}{vs:List Value}(i:Nat){a:Cmp},CmpSats β H l vs->l[i]?=some a-> ∃v,vs[i]?=some v/\a.sat β H v
 |_::_,_::_,0,_,h,e=>by simp at e;subst e;exact⟨_,rfl,h.1⟩
 |_::_,_::_,i+1,_,h,e=>by simpa using CmpSats.get i h.2 (by simpa using e)
 |[],_,_,_,_,e=>by simp at e
 |_::_,[],_,_,h,_=>h.elim
theorem Pi{x:Operand}{ty:TypeId}{l:List Cmp}{i:Nat}{u:Cmp}(h:l[i]?=some u):OpOk P (.extract x i) ty [(x,.tup l)] [] (.c u) []:=
 qP λa w H β hins _ _=>by
  obtain⟨arr,hx,hsat⟩:=hins _ q5Q;simp only at hx;obtain⟨v,hv,hu⟩:=CmpSats.get i hsat h;refine⟨v,hu,λ_ _ _ _=>?_⟩;have hv':arr[i]?=some v:=by simpa using hv
  simp only[execOp,Instr.extract,hx,hv',q6H,q6I,q6G]
theorem Dz{x:Operand}{ty:TypeId}{u:Atom}(h: ∀β H v,u.sat β H v-> ∃p,v= .pointer (some p)):OpOk P (.nilCheck x) ty [(x,.c (.one u))] [] (.c (.one u)) []:=
 qP λa w H β hins _ _=>by
  have hx:=hins _ q5Q;obtain⟨p,hp⟩:=h β H _ hx;simp only at hp;refine⟨_,hx,λ_ _ _ _=>?_⟩;simp only[execOp,hp,q6I]
theorem Rg(k off:Nat): ∀β H v,(Atom.loc k off).sat β H v-> ∃p,v= .pointer (some p):=λ_ _ _⟨_,_,_,h⟩=>⟨_,h⟩
theorem q26(l:List CAtom): ∀β H v,(Atom.ptr l).sat β H v-> ∃p,v= .pointer (some p):=λ_ _ _⟨_,_,_,h,_⟩=>⟨_,h⟩
def afill(place:Nat->Option (Nat×Nat)):List Atom->List (Nat×Cmp)->Option (List Atom)
 |cells,[]=>some cells
 |cells,(i,v)::rest=>
  match place i with
  |none=>none
  |some (off,size)=>bif Nat.beq v.cells.length size&&Nat.ble (off+size) cells.length then afill place (spl cells off v.cells) rest else none
theorem JV(off:Nat): ∀(vs:List Value)(j:Nat)(cs:Array Value),off+j+vs.length<=cs.size->
  ((vs.zipIdx j).foldl (λcs(p:Value×Nat)=>cs.setIfInBounds (off+p.2) p.1) cs).toList=spl cs.toList (off+j) vs
 |[],j,cs,_=>by simp[spl]
 |v::vs,j,cs,h=>by
  simp only[List.zipIdx_cons,List.foldl_cons];rw[JV off vs (j+1) _ (by simp at h⊢;omega)];simp only[q5H]at h;have e1:(cs.setIfInBounds (off+j) v).toList=cs.toList.set (off+j) v:=by simp
  rw[e1];unfold spl
  have e2:(cs.toList.set (off+j) v).take (off+(j+1))=cs.toList.take (off+j)++[v]:=by
   rw[show off+(j+1)=(off+j)+1 by omega,q60 (by simp;omega)];rw[List.take_set,List.getElem_set_self,List.set_eq_of_length_le (by simp;omega)]
  have e3:(cs.toList.set (off+j) v).drop (off+(j+1)+vs.length)=cs.toList.drop (off+j+(v::vs).length):=by
   rw[q6W (by omega)]
   congr 1
   simp;omega
  rw[e2,e3];simp
def PSats(β:Bm)(H:Heap):List (Nat×Cmp)->List (Nat×Value)->Prop
 |[],[]=>True
 |p::ps,q::qs=>p.1=q.1/\p.2.sat β H q.2/\PSats β H ps qs
 |_,_=>False
theorem Et{β:Bm}{H:Heap}{place:Nat->Option (Nat×Nat)}: ∀{parts:List (Nat×Cmp)}{ps:List (Nat×Value)}{cells:List Atom}{arr:Array Value}{cs:List Atom},
  Sats β H cells arr.toList->PSats β H parts ps->afill place cells parts=some cs-> ∃arr',Instr.fill place arr ps=some arr'/\Sats β H cs arr'.toList
 |[],[],cells,arr,cs,h,_,e=>by simp[afill]at e;subst e;exact⟨arr,rfl,h⟩
 |(i,v)::parts,(i',u)::ps,cells,arr,cs,h,hp,e=>by
  obtain⟨hi,hv,hr⟩:=hp;simp only at hi hv;subst hi;simp only[afill]at e
  cases hpl:place i with
  |none=>rw[hpl]at e;cases e
  |some q=>
   obtain⟨off,size⟩:=q;rw[hpl]at e;simp only at e;have hvc:=Cmp.sat_cells hv;have hlv:=Sats.length hvc;have hlc:=Sats.length h;simp at hlv hlc
   cases hb:(Nat.beq v.cells.length size&&Nat.ble (off+size) cells.length)with
   |false=>rw[hb]at e;cases e
   |true=>
    rw[hb]at e;simp only[q5m,Nat.beq_eq,Nat.ble_eq]at hb;obtain⟨h1,h2⟩:=hb;have hf:=JV off u.cells.toList 0 arr (by simp;omega)
    obtain⟨arr',ha,hs⟩:=Et (place:=place) (arr:=(u.cells.zipIdx.foldl (λcs(c,j)=>cs.setIfInBounds (off+j) c) arr)) (by
     have:(u.cells.zipIdx.foldl (λcs(c,j)=>cs.setIfInBounds (off+j) c) arr).toList=spl arr.toList off u.cells.toList:=by
      rw[<-Array.foldl_toList,Array.toList_zipIdx];simpa using hf
     rw[this];exact h.spl off hvc) hr e
    refine⟨arr',?_,hs⟩;simp only[Instr.fill,hpl]
    have e1: ¬(u.cells.size≠size||decide (off+u.cells.size>arr.size))=true:=by
     simp;omega
    rw[if_neg (by simpa using e1)];exact ha
 |[],_::_,_,_,_,_,hp,_=>hp.elim
 |_::_,[],_,_,_,_,hp,_=>hp.elim
theorem PSats.of_ins{β:Bm}{H:Heap}{a:Act}: ∀{parts:List (Nat×Operand)}{vs:List Cmp},parts.length=vs.length->
  (∀p∈List.zip (parts.map (·.2)) (vs.map AV.c),p.2.sat β H (a.eval p.1))->PSats β H (List.zip (parts.map (·.1)) vs) (parts.map λp=>(p.1,a.eval p.2))
 |[],[],_,_=>trivial
 |p::parts,v::vs,hl,h=>by
  refine⟨rfl,h (p.2,.c v) (by simp),PSats.of_ins (by simpa using hl) λq hq=>h q (by simp at hq⊢;exact .inr hq)⟩
 |[],_::_,hl,_=>by simp at hl
 |_::_,[],hl,_=>by simp at hl
def Ge(P:Program)(t:TypeId):Option (Nat->Option (Nat×Nat)):=
 match P.underlying t with
 |some (.struct fs)=>some λi=>match fs[i]? with|some f=>(match P.info? f.type with|some ti=>some (f.offset,ti.size)|none=>none)|none=>none
 |some (.array _ e)=>match P.info? e with|some ti=>some λi=>some (i*ti.size,ti.size)|none=>none
 |_=>none
theorem ES{α β:Type}(g:α->Sem β)(g':α->β)(w:World): ∀(l:List α),(∀x∈l,(g x).run P w= .ok (g' x) w)->(l.mapM g).run P w= .ok (l.map g') w
 |[],_=>by simp
 |x::l,h=>by
  rw[List.mapM_cons];simp only[q6H,h x q5Q,q6G,ES g g' w l (λy hy=>h y (q5P _ hy)),q6I,q5M]
theorem Rq{t ty:TypeId}{parts:Array (Nat×Operand)}{vs:List Cmp}{ti:TypeInfo}{z:Value}{zs cs:List Atom}{place:Nat->Option (Nat×Nat)}
  (hi:P.info? t=some ti)(hz:ti.zero=some z)(hzs: ∀β H,Sats β H zs z.cells.toList)(hp:Ge P t=some place)(hl:parts.size=vs.length)
  (hall: ∀fs,P.underlying t=some (.struct fs)->fs.all (λf=>(P.info? f.type).isSome)=true)
  (hf:afill place zs (List.zip (parts.toList.map (·.1)) vs)=some cs):
  OpOk P (.build t parts) ty (List.zip (parts.toList.map (·.2)) (vs.map AV.c)) [] (.c (.agg cs)) []:=
 qP λa w H β hins _ _=>by
  have hps:=PSats.of_ins (β:=β) (H:=H) (a:=a) (parts:=parts.toList) (vs:=vs) (by simpa using hl) hins;unfold Ge at hp
  cases hu:P.underlying t with
  |none=>rw[hu]at hp;cases hp
  |some d=>
   rw[hu]at hp
   cases d with
   |struct fs=>
    simp only[q6E]at hp;subst hp
    have hrun:(fs.mapM λ(f:Field)=>do pure (f.offset,<-sizeOf f.type):Sem (Array (Nat×Nat))).run P w= .ok (fs.map λ(f:Field)=>(f.offset,((P.info? f.type).map (·.size)).getD 0)) w:=by
     rw[Array.mapM_eq_mapM_toList];simp only[Sem.run_map]
     rw[ES (P:=P) _ (λ(f:Field)=>(f.offset,((P.info? f.type).map (·.size)).getD 0)) w fs.toList (λf hf=>by
      have:=(Array.all_eq_true_iff_forall_mem.1 (hall fs hu)) f (by simpa using hf);obtain⟨i',hi'⟩:=Option.isSome_iff_exists.1 this
      simp[jO hi',hi'])]
     simp only[q6G]
     congr 1
     apply Array.ext';simp
    have hpl: ∀i:Nat,(fs.map λ(f:Field)=>(f.offset,((P.info? f.type).map (·.size)).getD 0))[i]?=(match fs[i]? with|some f=>(match P.info? f.type with|some ti=>some (f.offset,ti.size)|none=>none)|none=>none):=by
     intro i;simp only[Array.getElem?_map]
     cases hfi:fs[i]? with
     |none=>rfl
     |some f=>
      have:=(Array.all_eq_true_iff_forall_mem.1 (hall fs hu)) f (Array.mem_of_getElem? hfi);obtain⟨i',hi'⟩:=Option.isSome_iff_exists.1 this;simp[hi']
    obtain⟨arr',ha,hs⟩:=Et (arr:=z.cells) (hzs β H) hps hf;refine⟨.agg arr',⟨_,rfl,hs⟩,λ_ _ _ _=>?_⟩;have hfun:=funext hpl;have htl:(parts.map λ(i,x)=>(i,a.eval x)).toList=parts.toList.map λp=>(p.1,a.eval p.2):=by simp
    simp only[execOp,Instr.build,q6H,vO hi hz,q6G,qG hu,hrun,htl,hfun,ha,q6I]
   |array n e=>
    cases he:P.info? e with
    |none=>simp[he]at hp
    |some te=>
     simp only[he,q6E]at hp;subst hp;obtain⟨arr',ha,hs⟩:=Et (arr:=z.cells) (hzs β H) hps hf;refine⟨.agg arr',⟨_,rfl,hs⟩,λ_ _ _ _=>?_⟩;have htl:(parts.map λ(i,x)=>(i,a.eval x)).toList=parts.toList.map λp=>(p.1,a.eval p.2):=by simp
     simp only[execOp,Instr.build,q6H,vO hi hz,q6G,qG hu,jO he,htl,ha,q6I]
   |_=>simp at hp
theorem Tf{t ty:TypeId}{parts:Array (Nat×Operand)}{vs:List Cmp}{ti:TypeInfo}{z:Value}{zs cs:List Atom}{place:Nat->Option (Nat×Nat)}
  (hi:P.info? t=some ti)(hz:ti.zero=some z)(hzs:vT z.cells.toList=some zs)(hp:Ge P t=some place)(hl:parts.size=vs.length)
  (hall: ∀fs,P.underlying t=some (.struct fs)->fs.all (λf=>(P.info? f.type).isSome)=true)
  (hf:afill place zs (List.zip (parts.toList.map (·.1)) vs)=some cs):
  OpOk P (.build t parts) ty (List.zip (parts.toList.map (·.2)) (vs.map AV.c)) [] (.c (.agg cs)) []:=
 Rq hi hz (λ_ _=>Bc hzs) hp hl hall hf
def callable(P:Program)(f:FuncId):Bool:=
 match P.funcs[f]? with
 |some fn=>fn.name != "runtime.NumGoroutine" &&fn.body.isSome
 |none=>false
theorem CP{f:FuncId}(h:callable P f=true)(args:Array Value)(w:World):(callFunc f args).run P w= .ok (.enter f args) w:=by
 unfold callable at h
 cases hf:P.funcs[f]? with
 |none=>rw[hf]at h;cases h
 |some fn=>
  rw[hf]at h;simp only[q5m,bne_iff_ne,ne_eq]at h;have h2:fn.body.isNone=false:=by cases hb:fn.body with|none=>rw[hb]at h;simp at h|some c=>rfl
  have h1:(fn.name== "runtime.NumGoroutine")=false:=by simpa using h.1
  simp only[callFunc,q6H,run_program,q6G,hf,h1,h2,q5n,if_false,q6I]
def AVs(β:Bm)(H:Heap):List AV->List Value->Prop
 |[],[]=>True
 |a::az,v::vs=>a.sat β H v/\AVs β H az vs
 |_,_=>False
def vQ(P:Program)(f:FuncId)(args:List AV)(kin:List (Nat×Blk))(R:AV)(Lw:List (Nat×Option Blk)):Prop:=
 callable P f=true/\ ∀(vs:List Value)(w:World)(H:Heap)(β:Bm),AVs β H args vs->
  (∀p∈kin,p.2.rep β w H p.1/\ ∀b c,β p.1=some (b,c)->H b=none/\b<w.heap.size)->
  (∀p∈kin,∀p'∈kin,p.1≠p'.1-> ∀b c c',β p.1=some (b,c)->β p'.1≠some (b,c'))->
  Heap.On H w->
  Calls P f vs.toArray w λe w'=> ∃v H' β',e= .returned v/\Step w H β (kwOf kin Lw) (qX kin Lw) (vg Lw) w' H' β'/\R.sat β' H' v/\ ∀k b,(k,some b)∈Lw->b.rep β' w' H' k
theorem AVs.of_ins{β:Bm}{H:Heap}{a:Act}: ∀{xs:List Operand}{az:List AV},xs.length=az.length->(∀p∈List.zip xs az,p.2.sat β H (a.eval p.1))->AVs β H az (xs.map a.eval)
 |[],[],_,_=>trivial
 |x::xs,v::az,hl,h=>⟨h (x,v) (by simp),AVs.of_ins (by simpa using hl) λq hq=>h q (by simp at hq⊢;exact .inr hq)⟩
 |[],_::_,hl,_=>by simp at hl
 |_::_,[],hl,_=>by simp at hl
theorem Cl{fx:Operand}{f:FuncId}{xs:Array Operand}{ts:Array TypeId}{ty:TypeId}{az:List AV}{kin:List (Nat×Blk)}{R:AV}{Lw:List (Nat×Option Blk)}
  (hl:xs.size=az.length)(h:vQ P f az kin R Lw):
  OpOk P (.call {callee:= .value fx,args:=xs,argTypes:=ts}) ty ((fx,vFun f)::List.zip xs.toList az) kin R Lw:=by
 intro dst pos after guard a w H β K Q hins hkin hdis hon hK;have hf:=(hins _ q5Q).1;simp only at hf;have hargs:=AVs.of_ins (a:=a) (β:=β) (H:=H) (xs:=xs.toList) (az:=az) (by simpa using hl) λp hp=>hins p (q5P _ hp)
 have hc:=h.2 _ w H β hargs hkin hdis hon;unfold Oper.wp
 have hrun:(execOp a.eval ⟨dst,.call {callee:= .value fx,args:=xs,argTypes:=ts},ty,pos,after,guard⟩).run P w= .ok (.enter f (xs.map a.eval)) w:=by
  simp only[execOp,resolve,hf,Deferred.ofValue,q6H,q6I,q6G,invoke];rw[show(#[]++Array.map a.eval xs++ #[]:Array Value)=Array.map a.eval xs by simp];exact CP h.1 _ w
 rw[hrun];show Calls P f (xs.map a.eval) w _;have e:(xs.toList.map a.eval).toArray=xs.map a.eval:=Array.ext' (by rw[Array.toList_map]);rw[<-e];refine hc.mono λe' w'⟨v,H',β',he,hs,hR,hL⟩=>?_
 subst he;exact hK v w' H' β' hs hR hL
end
end
section
structure ASt where
 m:List (Nat×AV)
 L:List (Nat×Blk)
def j9(st:ASt):FS:=λℓ=>if ℓ%2=0 then(look st.m (ℓ/2)).map .av else(look st.L (ℓ/2)).map .bl
theorem jy(st:ASt)(t:Nat):j9 st (2*t)=(look st.m t).map .av:=by
 unfold j9;rw[if_pos (by omega),show 2*t/2=t by omega]
theorem qz(st:ASt)(k:Nat):j9 st (2*k+1)=(look st.L k).map .bl:=by
 unfold j9;rw[if_neg (by omega),show(2*k+1)/2=k by omega]
def del{α:Type}(l:List (Nat×α))(k:Nat):List (Nat×α):=
 match l with
 |[]=>[]
 |p::r=>bif Nat.beq p.1 k then del r k else p::del r k
theorem EB{α:Type}(l:List (Nat×α))(k t:Nat):look (del l k) t=if t=k then none else look l t:=by
 induction l with
 |nil=>simp[del,look]
 |cons p r ih=>
  obtain⟨q,v⟩:=p;simp only[del];by_cases e:q=k
  .subst e
   simp only[Nat.beq_refl,cond_true,ih,look];by_cases e':t=q
   .simp[e']
   .simp[e',jm (λh=>e' h.symm)]
  .simp only[jm e,cond_false,look,ih]
   by_cases e':q=t
   .subst e';simp[e]
   .simp[jm e']
def Atom.ids:Atom->List Nat
 | .loc k _| .sl k _ _ _| .gs k _| .so k _ _ _| .mp k| .ks k _ _ _=>[k]
 | .clo _ ps=>ps.map (·.1)
 |_=>[]
def Cmp.ids:Cmp->List Nat
 | .one a=>a.ids
 | .agg l=>l.flatMap Atom.ids
def AV.ids:AV->List Nat
 | .c x=>x.ids
 | .tup l=>l.flatMap Cmp.ids
def Blk.ids:Blk->List Nat
 | .rigid cs| .grow _ cs=>cs.flatMap Atom.ids
 | .mp _=>[]
 | .mc l=>(l.map (·.2)).flatMap Cmp.ids
theorem Atom.men_ids{a:Atom}{k:Nat}(h:a.men k=true):k∈a.ids:=by
 cases a<;>simp_all [Atom.men,Atom.ids]
theorem GZ{k:Nat}: ∀{l:List Atom},jA k l=true->k∈l.flatMap Atom.ids
 |[],h=>by simp[jA]at h
 |a::l,h=>by
  simp only[jA,Bool.or_eq_true]at h;rw[q5x,q5N];exact h.imp Atom.men_ids GZ
theorem Cmp.men_ids{x:Cmp}{k:Nat}(h:x.men k=true):k∈x.ids:=by
 cases x with
 |one a=>exact Atom.men_ids h
 |agg l=>exact GZ h
theorem GY{k:Nat}: ∀{l:List Cmp},menC k l=true->k∈l.flatMap Cmp.ids
 |[],h=>by simp[menC]at h
 |a::l,h=>by
  simp only[menC,Bool.or_eq_true]at h;rw[q5x,q5N];exact h.imp Cmp.men_ids GY
theorem AV.men_ids{x:AV}{k:Nat}(h:x.men k=true):k∈x.ids:=by
 cases x with
 |c a=>exact Cmp.men_ids h
 |tup l=>exact GY h
theorem Blk.men_ids{x:Blk}{k:Nat}(h:x.men k=true):k∈x.ids:=by
 cases x with
 |mp l=>cases h
 |mc l=>exact GY h
 |_=>exact GZ h
def Ce(v:Value):Option AV:=
 bif v.oneC then some (.c (.one (.val v)))else
 match v with
 | .agg arr=>(vT arr.toList).map λl=> .c (.agg l)
 |_=>none
theorem N8{v:Value}{x:AV}(h:Ce v=some x)(β:Bm)(H:Heap):x.sat β H v:=by
 unfold Ce at h
 cases ho:v.oneC with
 |true=>rw[ho]at h;simp at h;subst h;exact⟨rfl,ho⟩
 |false=>
  rw[ho]at h;simp only[cond_false]at h;split at h
  .rename_i arr
   cases hv:vT arr.toList with
   |none=>rw[hv]at h;cases h
   |some l=>rw[hv]at h;simp at h;subst h;exact⟨arr,rfl,Bc hv⟩
  .cases h
def evOp(st:ASt):Operand->Option AV
 | .tmp t=>look st.m t
 | .const v=>Ce v
 | .func f=>some (vFun f)
 | .global _=>none
def Ep(st:ASt):List Operand->Option (List AV)
 |[]=>some []
 |x::r=>match evOp st x with
  |some v=>match Ep st r with
   |some vs=>some (v::vs)
   |none=>none
  |none=>none
def B0:List Operand->List Nat
 |[]=>[]
 | .tmp t::r=>2*t::B0 r
 |_::r=>B0 r
def P6(st:ASt):List Nat->Option (List (Nat×Blk))
 |[]=>some []
 |k::r=>match look st.L k with
  |some b=>match P6 st r with
   |some l=>some ((k,b)::l)
   |none=>none
  |none=>none
abbrev Res:=AV×List Nat×List (Nat×Option Blk)
def EW(P:Program)(bl:Nat->Option Blk)(t:TypeId):AV->Option Res
 | .c (.one (.loc k off))=>match bl k with
  |some (.rigid cs)=>match jl P t with
   |some (true,s)=>bif Nat.ble (off+s) cs.length then some (.c (.agg ((cs.drop off).take s)),[k],[])else none
   |some (false,_)=>match cs[off]? with|some u=>some (.c (.one u),[k],[])|none=>none
   |none=>none
  |some (.grow _ cs)=>match jl P t with
   |some (true,s)=>bif Nat.ble (off+s) cs.length then some (.c (.agg ((cs.drop off).take s)),[k],[])else none
   |some (false,_)=>match cs[off]? with|some u=>some (.c (.one u),[k],[])|none=>none
   |none=>none
  |_=>none
 | .c (.one (.ptr l))=>match jl P t with
  |some (true,s)=>bif Nat.ble s l.length&&Nat.blt 0 s then some (.c (.agg ((l.take s).map CAtom.up)),[],[])else none
  |some (false,_)=>match l with|u::_=>some (.c (.one u.up),[],[])|[]=>none
  |_=>none
 |_=>none
def Oy(P:Program)(t:TypeId):AV->Option AV
 | .c (.one (.sl _ _ n _))=>match P.underlying t with|some (.slice _)=>some (qo .i64 n)|_=>none
 | .c (.one (.gs _ n))=>match P.underlying t with|some (.slice _)=>some (qo .i64 n)|_=>none
 | .c (.one (.val (.slice _ n _)))=>match P.underlying t with|some (.slice _)=>some (qo .i64 n)|_=>none
 |_=>none
def GK(P:Program)(t:TypeId):Bool:=
 match P.underlying t with
 |some (.struct fs)=>fs.all λf=>(P.info? f.type).isSome
 |_=>true
section
variable {P:Program}
theorem N6 {t ty : TypeId} {x : Operand} {v R : AV} (h : Oy P t v = some R) : OpOk P (.call { callee := .builtin .len, args := #[x], argTypes := #[t] }) ty [(x, v)] [] R [] := by
  unfold Oy at h
  split at h <;> first
    | (split at h
       · rename_i e hu
         simp at h; subst h
         first | exact Ff hu (q1T _ _ _ _) | exact Ff hu (q1S _ _) | exact Ff hu (Xe _ _ _)
       · cases h)
    | cases h
end
end
section
inductive Ob where
 |run (op:Op) (ty:TypeId) (ins:List (Operand×AV)) (kin:List (Nat×Blk)) (R:AV) (Lw:List (Nat×Option Blk))
 |fresh (b:Blk) (k:Nat)
 |dat (b:Blk)
def Ob.ok(P:Program):Ob->Prop
 | .run op ty ins kin R Lw=>OpOk P op ty ins kin R Lw
 | .fresh b k=>b.men k=false
 | .dat b=> ∀k,b.men k=false
def AllOk(P:Program):List Ob->Prop
 |[]=>True
 | .run op ty ins kin R Lw::r=>OpOk P op ty ins kin R Lw/\AllOk P r
 | .fresh b k::r=>b.men k=false/\AllOk P r
 | .dat b::r=>(∀k,b.men k=false)/\AllOk P r
theorem AllOk.cons{P:Program}{o:Ob}{r:List Ob}:AllOk P (o::r)↔o.ok P/\AllOk P r:=by
 cases o<;>exact Iff.rfl
theorem AllOk.mem{P:Program}: ∀{l:List Ob}{o:Ob},AllOk P l->o∈l->o.ok P
 |_::_,_,h,hm=>by
  rcases q5O.1 hm with rfl|hm
  .exact(AllOk.cons.1 h).1
  .exact AllOk.mem (AllOk.cons.1 h).2 hm
 |[],_,_,hm=>by simp at hm
def gslots(all:List Oper)(o:Oper):List Nat:=
 match o.guard with
 |none=>[]
 |some (j,_)=>match(all[j]?).bind (·.dst)with
  |some d=>[2*d]
  |none=>[]
def Ci(all:List Oper)(st:ASt)(o:Oper):Option Bool:=
 match o.guard with
 |none=>some true
 |some (j,want)=>match(all[j]?).bind (·.dst)with
  |none=>none
  |some d=>match look st.m d with
   |some (.c (.one (.val (.bool b))))=>some (b==want)
   |some (.tup [])=>some false
   |_=>none
def FT(n:Nat):Option Tmp->Bool
 |none=>true
 |some d=>Nat.blt d n
def q12(Lw:List (Nat×Option Blk))(dat:List Nat):List Ob:=Lw.flatMap λp=>match p.2 with|some b=>bif dat.any (Nat.beq p.1)then[.dat b]else[]|none=>[]
def Pw(R:AV)(Lw:List (Nat×Option Blk))(dat:List Nat):List Nat:=R.ids++Lw.flatMap λp=>match p.2 with|some b=>bif dat.any (Nat.beq p.1)then[]else b.ids|none=>[]
def Yk(E:Env)(Φ:Exit->ASt->Prop):Exit->Act->World->Prop:=λe a w=> ∃st H β,Φ e st/\RepF E (j9 st) a w H β
def Tr(P:Program)(n:Nat)(Ks:List Nat)(c:Code)(st:ASt)(Φ:Exit->ASt->Prop):Prop:=
 ∀E:Env,E.n=n->E.Ks=Ks-> ∀a w H β,RepF E (j9 st) a w H β->c.wp P (Yk E Φ) a w
theorem RepF.sub {E : Env} {σ σ' : FS} {a : Act} {w : World} {H : Heap} {β : Bm} (h : RepF E σ a w H β) (hs : ∀ ℓ x, σ' ℓ = some x -> σ ℓ = some x) : RepF E σ' a w H β :=
 ⟨h.defers, h.size, λt av ht => h.slot t av (hs _ _ ht), λk b hb => h.blk k b (hs _ _ hb), λk x b c hx => h.own k x b c (hs _ _ hx), λk k' x x' b c c' hx hx' => h.inj k k' x x' b c c' (hs _ _ hx) (hs _ _ hx'),
  h.bor, h.os, h.tape, h.output, h.wsize, h.frame, h.hle, h.hnew, h.hon⟩
theorem D1{E:Env}{st:ASt}{σ:FS}{a:Act}{w:World}{H:Heap}{β:Bm}(h:RepF E σ a w H β): ∀{xs:List Operand}{vs:List AV},Ep st xs=some vs->
  (∀ℓ∈B0 xs,σ ℓ=j9 st ℓ)-> ∀p∈List.zip xs vs,p.2.sat β H (a.eval p.1)
 |[],vs,hv,_,p,hp=>by simp at hp
 |x::r,vs,hv,hσ,p,hp=>by
  simp only[Ep]at hv
  cases hx:evOp st x with
  |none=>rw[hx]at hv;cases hv
  |some v=>
   rw[hx]at hv;simp only at hv
   cases hr:Ep st r with
   |none=>rw[hr]at hv;cases hv
   |some l=>
    rw[hr]at hv;simp at hv;subst hv
    rw[List.zip_cons_cons]at hp;rcases q5O.1 hp with rfl|hp
    .cases x with
     |tmp t=>
      simp only[evOp]at hx;have h1:=hσ (2*t) (by simp[B0]);rw[jy,hx]at h1;obtain⟨u,hu,hs⟩:=h.slot t v h1;have:a.eval (.tmp t)=u:=by simp[Act.eval,Array.getD_eq_getD_getElem?,hu]
      simp only[this];exact hs
     |const c=>exact N8 hx β H
     |global g=>simp[evOp]at hx
     |func f=>simp[evOp]at hx;subst hx;exact⟨rfl,rfl⟩
    .exact D1 h hr (λℓ hℓ=>hσ ℓ (by cases x<;>simp[B0,hℓ])) p hp
theorem Px{P:Program}{dst:Option Tmp}{R:AV}{Lw:List (Nat×Option Blk)}{dat:List Nat}(hd:AllOk P (q12 Lw dat)): ∀ℓ x,look (Wof dst R Lw) ℓ=some (some x)-> ∀k,x.men k=true->k∈Pw R Lw dat:=by
 intro ℓ x hx k hk;unfold Pw;rw[q5N];rcases q6l ℓ with e|e
 .obtain⟨t,rfl⟩: ∃t,ℓ=2*t:=⟨ℓ/2,by omega⟩
  rw[wT]at hx;by_cases e:dst=some t
  .rw[if_pos e]at hx;simp at hx;subst hx;exact .inl (AV.men_ids hk)
  .rw[if_neg e]at hx;cases hx
 .obtain⟨t,rfl⟩: ∃t,ℓ=2*t+1:=⟨ℓ/2,by omega⟩
  rw[Ad]at hx
  cases hl:look Lw t with
  |none=>rw[hl]at hx;cases hx
  |some y=>
   rw[hl]at hx
   cases y with
   |none=>simp at hx
   |some b=>
    simp at hx;subst hx
    refine .inr (q6O.2 ⟨_,qR hl,?_⟩);simp only
    cases hq:dat.any (Nat.beq t)with
    |false=>exact Blk.men_ids hk
    |true=>
     have:=AllOk.mem (o:= .dat b) hd (q6O.2 ⟨_,qR hl,by simp[hq]⟩);have h2:=this k;have h3:(XV.bl b).men k=b.men k:=rfl;rw[h3,h2]at hk;cases hk
theorem Ex{all:List Oper}{ops:Array Oper}(hall:ops.toList=all){E:Env}{st:ASt}{σ:FS}{a:Act}{w:World}{H:Heap}{β:Bm}(h:RepF E σ a w H β){o:Oper}{b:Bool}(hg:Ci all st o=some b)
  (hσ: ∀ℓ∈gslots all o,σ ℓ=j9 st ℓ):Region.wanted o (yielded ops a.tmps)=b:=by
 unfold Ci at hg;unfold Region.wanted
 cases ho:o.guard with
 |none=>rw[ho]at hg;simp at hg;simp[hg]
 |some q=>
  obtain⟨j,want⟩:=q;rw[ho]at hg;simp only at hg⊢;have hidx: ∀i:Nat,all[i]?=ops[i]?:=by intro i;rw[<-hall];simp
  cases hd:(all[j]?).bind (·.dst)with
  |none=>rw[hd]at hg;cases hg
  |some d=>
   rw[hd]at hg;simp only at hg;have hd':(ops[j]?).bind (·.dst)=some d:=by rw[<-hidx];exact hd
   have h1:=hσ (2*d) (by unfold gslots;rw[ho];simp only[hd];simp);rw[jy]at h1;split at hg
   .rename_i b' hb'
    rw[hb']at h1;obtain⟨u,hu,hs⟩:=h.slot d _ h1;obtain⟨rfl,_⟩:=hs;simp at hg;subst hg
    simp[yielded,hd',hu]
   .rename_i hb'
    rw[hb']at h1;obtain⟨u,hu,hs⟩:=h.slot d _ h1;obtain⟨arr,rfl,hs⟩:=hs;simp at hg;subst hg
    simp[yielded,hd',hu]
   .cases hg
def evL(ps:List PI)(σ:FS):FS:=ps.foldl (λσ p=>σ.upd p.W) σ
theorem F3(ps:List PI)(σ:FS): ∀i,i<=ps.length->ev (λi=>ps.getD i default) (List.range i) σ=evL (ps.take i) σ
 |0,_=>rfl
 |i+1,h=>by
  rw[List.range_succ,D2,F3 ps σ i (by omega)];rw[q60 (by omega)];unfold evL;rw[List.foldl_append];simp only[ev,List.foldl_cons,List.foldl_nil];rw[q5y,q5C (by omega)];rfl
section
variable {P:Program} {n:Nat} {Ks:List Nat} {Φ:Exit->ASt->Prop} {st:ASt}
def Ent(n:Nat)(Ks:List Nat)(st st':ASt):Prop:= ∀E:Env,E.n=n->E.Ks=Ks-> ∀a w H β,RepF E (j9 st) a w H β-> ∃H' β',RepF E (j9 st') a w H' β'
theorem Ent.refl:Ent n Ks st st:=λ_ _ _ _ _ H β h=>⟨H,β,h⟩
theorem Ent.trans{s1 s2 s3:ASt}(h:Ent n Ks s1 s2)(k:Ent n Ks s2 s3):Ent n Ks s1 s3:=λE hn hK a w H β hr=>
 let⟨H',β',h'⟩:=h E hn hK a w H β hr
 k E hn hK a w H' β' h'
end
end
def Atom.map(ρ:Nat->Nat):Atom->Atom
 | .loc k o=> .loc (ρ k) o
 | .sl k o l c=> .sl (ρ k) o l c
 | .gs k n=> .gs (ρ k) n
 | .so k o l n=> .so (ρ k) o l n
 | .mp k=> .mp (ρ k)
 | .ks k o l n=> .ks (ρ k) o l n
 | .clo f ps=> .clo f (ps.map λp=>(ρ p.1,p.2))
 |a=>a
def Cmp.map(ρ:Nat->Nat):Cmp->Cmp
 | .one a=> .one (a.map ρ)
 | .agg l=> .agg (l.map (Atom.map ρ))
def AV.map(ρ:Nat->Nat):AV->AV
 | .c x=> .c (x.map ρ)
 | .tup l=> .tup (l.map (Cmp.map ρ))
def Blk.map(ρ:Nat->Nat):Blk->Blk
 | .rigid cs=> .rigid (cs.map (Atom.map ρ))
 | .grow es cs=> .grow es (cs.map (Atom.map ρ))
 | .mp l=> .mp l
 | .mc l=> .mc (l.map λp=>(p.1,p.2.map ρ))
theorem LocsSat.map{ρ:Nat->Nat}{β:Bm}: ∀{ps:List (Nat×Nat)}{vs:List Value},LocsSat β (ps.map λp=>(ρ p.1,p.2)) vs↔LocsSat (λk=>β (ρ k)) ps vs
 |[],[]=>Iff.rfl
 |p::l,v::vs=>by simp only[q5M,LocsSat,LocsSat.map]
 |[],_::_=>Iff.rfl
 |_::_,[]=>Iff.rfl
theorem Atom.sat_map{ρ:Nat->Nat}{β:Bm}{H:Heap}{a:Atom}{v:Value}:(a.map ρ).sat β H v↔a.sat (λk=>β (ρ k)) H v:=by
 cases a with
 |clo f ps=>exact⟨λ⟨vs,h,k⟩=>⟨vs,h,LocsSat.map.1 k⟩,λ⟨vs,h,k⟩=>⟨vs,h,LocsSat.map.2 k⟩⟩
 |_=>exact Iff.rfl
theorem Sats.map{ρ:Nat->Nat}{β:Bm}{H:Heap}: ∀{l:List Atom}{vs:List Value},Sats β H (l.map (Atom.map ρ)) vs↔Sats (λk=>β (ρ k)) H l vs
 |[],[]=>Iff.rfl
 |a::l,v::vs=>by simp only[q5M,Sats,Atom.sat_map,Sats.map]
 |[],_::_=>Iff.rfl
 |_::_,[]=>Iff.rfl
theorem Cmp.sat_map{ρ:Nat->Nat}{β:Bm}{H:Heap}{a:Cmp}{v:Value}:(a.map ρ).sat β H v↔a.sat (λk=>β (ρ k)) H v:=by
 cases a with
 |one a=>exact Atom.sat_map
 |agg l=>simp only[Cmp.map,Cmp.sat,Sats.map]
theorem CmpSats.map{ρ:Nat->Nat}{β:Bm}{H:Heap}: ∀{l:List Cmp}{vs:List Value},CmpSats β H (l.map (Cmp.map ρ)) vs↔CmpSats (λk=>β (ρ k)) H l vs
 |[],[]=>Iff.rfl
 |a::l,v::vs=>by simp only[q5M,CmpSats,Cmp.sat_map,CmpSats.map]
 |[],_::_=>Iff.rfl
 |_::_,[]=>Iff.rfl
theorem AV.sat_map{ρ:Nat->Nat}{β:Bm}{H:Heap}{a:AV}{v:Value}:(a.map ρ).sat β H v↔a.sat (λk=>β (ρ k)) H v:=by
 cases a with
 |c a=>exact Cmp.sat_map
 |tup l=>simp only[AV.map,AV.sat,CmpSats.map]
theorem Blk.rep_map{ρ:Nat->Nat}{β:Bm}{w:World}{H:Heap}{k:Nat}{x:Blk}:(x.map ρ).rep β w H (ρ k)↔x.rep (λk=>β (ρ k)) w H k:=by
 cases x with
 |rigid cs=>simp only[Blk.map,Blk.rep,Sats.map]
 |grow es cs=>simp only[Blk.map,Blk.rep,Sats.map,List.map_eq_nil_iff,q5J]
 |mp l=>exact Iff.rfl
 |mc l=>
  have e1:(l.map λp=>(p.1,Cmp.map ρ p.2)).map (·.1)=l.map (·.1):=by rw[List.map_map];rfl
  have e2:(l.map λp=>(p.1,Cmp.map ρ p.2)).map (·.2)=(l.map (·.2)).map (Cmp.map ρ):=by rw[List.map_map,List.map_map];rfl
  simp only[Blk.map,Blk.rep,e1,e2,CmpSats.map,q5J]
theorem Oz{P:Program}{bl:Nat->Option Blk}{t:TypeId}{k off:Nat}{x:Cmp}{ks:List Nat}{Lw:List (Nat×Option Blk)}(h:EW P bl t (.c (.one (.loc k off)))=some (.c x,ks,Lw))
  {β:Bm}{w:World}{H:Heap}(hb: ∀b,bl k=some b->b.rep β w H k){p c:Nat}(hβ:β k=some (p,c)): ∃v,(loadVar t ⟨p,off,none⟩).run P w= .ok v w/\x.sat β H v:=by
 unfold EW at h;simp only at h;split at h
 .rename_i cs hbl
  obtain⟨b',c',arr,T,hβ',hw,hsat⟩:=hb _ hbl;rw[hβ]at hβ';cases hβ'
  have hlen:=Sats.length hsat;split at h
  .rename_i s hs
   cases hle:Nat.ble (off+s) cs.length with
   |false=>rw[hle]at h;cases h
   |true=>
    rw[hle]at h;simp at h;obtain⟨rfl,_,_⟩:=h
    have hle':off+s<=cs.length:=by simpa using hle
    simp at hlen;refine⟨_,wj hs hw (off:=off) (by omega),_,rfl,?_⟩;simpa using(hsat.drop off).take s
  .rename_i s hs
   split at h
   .rename_i u hu
    simp at h;obtain⟨rfl,_,_⟩:=h
    obtain⟨v,hv,hsv⟩:=Sats.get off hsat hu;exact⟨v,zG hs hw (off:=off) (by simpa using hv),hsv⟩
   .cases h
  .cases h
 .rename_i es cs hbl
  rcases hb _ hbl with⟨hβ',_⟩|⟨b',c',arr,T,hβ',hw,_,hle2,hsat⟩
  .rw[hβ]at hβ';cases hβ'
  rw[hβ]at hβ';cases hβ'
  split at h
  .rename_i s hs
   cases hle:Nat.ble (off+s) cs.length with
   |false=>rw[hle]at h;cases h
   |true=>
    rw[hle]at h;simp at h;obtain⟨rfl,_,_⟩:=h
    have hle':off+s<=cs.length:=by simpa using hle
    refine⟨_,wj hs hw (off:=off) (by omega),_,rfl,?_⟩;have:=(hsat.drop off).take s;rw[List.drop_take,q61,q6i (by omega)]at this;simpa using this
  .rename_i s hs
   split at h
   .rename_i u hu
    simp at h;obtain⟨rfl,_,_⟩:=h
    obtain⟨v,hv,hsv⟩:=Sats.get off hsat hu
    have hlt:off<cs.length:=by
     rcases q6h off cs.length with h|h
     .exact h
     .rw[q5D h]at hu;cases hu
    rw[q5E hlt]at hv;exact⟨v,zG hs hw (off:=off) (by simpa using hv),hsv⟩
   .cases h
  .cases h
 .cases h
def DZ(P:Program)(st:ASt):ResultVar->Option Cmp
 | .tmp t=>match look st.m t with|some (.c x)=>some x|_=>none
 | .cell a t=>match look st.m a with
  |some (.c (.one (.loc k off)))=>match EW P (look st.L) t (.c (.one (.loc k off)))with
   |some (.c x,_,_)=>some x
   |_=>none
  |_=>none
def As(P:Program)(st:ASt):List ResultVar->Option (List Cmp)
 |[]=>some []
 |r::rs=>match DZ P st r with
  |some x=>match As P st rs with
   |some l=>some (x::l)
   |none=>none
  |none=>none
def BG(P:Program)(st:ASt)(rs:List ResultVar):Option AV:=
 match As P st rs with
 |some [x]=>some (.c x)
 |some l=>some (.tup l)
 |none=>none
def rv(a:Act):ResultVar->Sem Value
 | .tmp t=>pure (a.tmps.getD t undef)
 | .cell x t=>do loadVar t (<-asAddr (a.tmps.getD x undef))
theorem GG{P:Program}{E:Env}{st:ASt}{a:Act}{w:World}{H:Heap}{β:Bm}(hr:RepF E (j9 st) a w H β): ∀{rs:List ResultVar}{l:List Cmp},As P st rs=some l->
  ∃vs,(rs.mapM (rv a)).run P w= .ok vs w/\CmpSats β H l vs
 |[],l,h=>by simp[As]at h;subst h;exact⟨[],by simp,trivial⟩
 |r::rs,l,h=>by
  simp only[As]at h
  cases hx:DZ P st r with
  |none=>rw[hx]at h;cases h
  |some x=>
   rw[hx]at h;simp only at h
   cases hl:As P st rs with
   |none=>rw[hl]at h;cases h
   |some l'=>
    rw[hl]at h;simp at h;subst h
    obtain⟨vs,hvs,hsat⟩:=GG hr hl
    have hone: ∃v,(rv a r).run P w= .ok v w/\x.sat β H v:=by
     cases r with
     |tmp t=>
      simp only[DZ]at hx;split at hx
      .rename_i y hy
       simp at hx;subst hx
       obtain⟨u,hu,hs⟩:=hr.slot t _ (by rw[jy,hy];rfl);exact⟨u,by simp[rv,Array.getD_eq_getD_getElem?,hu],hs⟩
      .cases hx
     |cell y t=>
      simp only[DZ]at hx;split at hx
      .rename_i k off hy
       split at hx
       .rename_i z ks Lw hz
        simp at hx;subst hx
        obtain⟨u,hu,hs⟩:=hr.slot y _ (by rw[jy,hy];rfl);obtain⟨b,c,hβ,rfl⟩:=hs;obtain⟨v,hv,hsv⟩:=Oz hz (β:=β) (w:=w) (H:=H) (λb' hb'=>hr.blk k b' (by rw[qz,hb'];rfl)) hβ;exact⟨v,by simp[rv,Array.getD_eq_getD_getElem?,hu,asAddr,hv],hsv⟩
       .cases hx
      .cases hx
    obtain⟨v,hv,hsv⟩:=hone;refine⟨v::vs,?_,hsv,hsat⟩;rw[List.mapM_cons];simp only[q6H,hv,q6G,hvs,q6I]
theorem Kc{P:Program}{E:Env}{st:ASt}{a:Act}{w:World}{H:Heap}{β:Bm}(hr:RepF E (j9 st) a w H β){fn:Func}{R:AV}(h:BG P st fn.results.toList=some R):
  ∃v,(results fn a.tmps).run P w= .ok v w/\R.sat β H v:=by
 unfold BG at h
 cases hl:As P st fn.results.toList with
 |none=>rw[hl]at h;cases h
 |some l=>
  rw[hl]at h;obtain⟨vs,hvs,hsat⟩:=GG hr hl
  have hrun:(results fn a.tmps).run P w= .ok (if h:vs.toArray.size=1 then vs.toArray[0]else .tuple vs.toArray) w:=by
   show(do let vs<-fn.results.mapM (rv a);pure (if h:vs.size=1 then vs[0]else Value.tuple vs):Sem Value).run P w=_;rw[Array.mapM_eq_mapM_toList];simp only[q6H,Sem.run_map,hvs,q6G,q6I]
  rw[hrun];refine⟨_,rfl,?_⟩
  match l,vs,h,hsat with
  |[],[],h,_=>simp at h;subst h;exact⟨#[],rfl,trivial⟩
  |[x],[v],h,hs=>simp at h;subst h;exact hs.1
  |x::y::l,v::u::vs,h,hs=>
   simp at h;subst h
   refine⟨_,?_,hs⟩;rw[dif_neg (by simp)]
  |[],_::_,_,hs=>exact hs.elim
  |_::_,[],_,hs=>exact hs.elim
  |[x],_::_::_,_,hs=>exact hs.2.elim
  |_::_::_,[_],_,hs=>exact hs.2.elim
def BA:Nat->List AV->List (Nat×AV)
 |_,[]=>[]
 |i,a::r=>(i,a)::BA (i+1) r
def zT(args:List AV)(kin:List (Nat×Blk)):ASt:=⟨BA 0 args,kin⟩
theorem CG: ∀{args:List AV}{i t:Nat}{v:AV},look (BA i args) t=some v->i<=t/\args[t-i]?=some v
 |[],i,t,v,h=>by simp[BA,look]at h
 |a::r,i,t,v,h=>by
  simp only[BA,look]at h;by_cases e:i=t
  .subst e;simp at h;subst h;simp
  .rw[jm e]at h
   obtain⟨h1,h2⟩:=CG (i:=i+1) h;refine⟨by omega,?_⟩;rw[show t-i=(t-(i+1))+1 by omega];simpa using h2
theorem AVs.get{β:Bm}{H:Heap}: ∀{l:List AV}{vs:List Value}(i:Nat){a:AV},AVs β H l vs->l[i]?=some a-> ∃v,vs[i]?=some v/\a.sat β H v
 |_::_,_::_,0,_,h,e=>by simp at e;subst e;exact⟨_,rfl,h.1⟩
 |_::_,_::_,i+1,_,h,e=>by simpa using AVs.get i h.2 (by simpa using e)
 |[],_,_,_,_,e=>by simp at e
 |_::_,[],_,_,h,_=>h.elim
theorem AVs.length{β:Bm}{H:Heap}: ∀{l:List AV}{vs:List Value},AVs β H l vs->l.length=vs.length
 |[],[],_=>rfl
 |_::_,_::_,hs=>by simp[AVs.length hs.2]
 |[],_::_,hs=>hs.elim
 |_::_,[],hs=>hs.elim
structure RetG (P:Program) (fn:Func) (R:AV) (Lw:List (Nat×Option Blk)) (ρ:Nat->Nat) (e:Exit) (st:ASt):Prop where
 e:e= .normal\/e= .ret
 res: ∃R',BG P st fn.results.toList=some R'/\ ∀β H v,R'.sat β H v->R.sat (λk=>β (ρ k)) H v
 blk: ∀k b,(k,some b)∈Lw-> ∃b',look st.L (ρ k)=some b'/\ ∀β w H,b'.rep β w H (ρ k)->b.rep (λk=>β (ρ k)) w H k
theorem AZ{P:Program}{f:FuncId}{fn:Func}{c:Code}{n:Nat}{args:List AV}{kin:List (Nat×Blk)}{R:AV}{Lw:List (Nat×Option Blk)}(ρ:Nat->Nat)
  (hf:P.funcs[f]?=some fn)(hb:fn.body=some c)(hn:fn.ntmps=n)(hname:fn.name≠ "runtime.NumGoroutine")(hlen:args.length<=n)
  (hKs: ∀p∈kin,100000<=p.1)
  (hkL: ∀p∈kin,∃b,(p.1,some b)∈Lw)(hkinL: ∀p∈kin,look kin p.1=some p.2)
  (hρK: ∀p∈kin,ρ p.1=p.1)(hρn: ∀k∈qX kin Lw,∀k' b,(k',some b)∈Lw->k≠k'->ρ k≠ρ k')
  (hids: ∀k,(R.men k=true\/ ∃k' b,(k',some b)∈Lw/\(b.men k=true))->k∈qX kin Lw\/(look kin k).isSome=true)
  (h:Tr P n (kin.map (·.1)) c (zT args kin) (RetG P fn R Lw ρ)):vQ P f args kin R Lw:=by
 refine⟨by unfold callable;rw[hf];simp[hb,hname],?_⟩;intro vs w H β hargs hkin hdis hon
 let E:Env:=⟨w,H,β,kin.map (·.1),n,(by
  intro k hk;obtain⟨p,hp,rfl⟩:=q6T.1 hk
  exact hKs p hp),[]⟩
 have hvl:=AVs.length hargs
 have hrep:RepF E (j9 (zT args kin)) {tmps:=vs.toArray++Array.replicate (fn.ntmps-vs.toArray.size) undef,defers:=[]} w H β:=by
  refine⟨rfl,?_,?_,?_,?_,?_,λ_ _=>rfl,rfl,rfl,rfl,q6d _,λ_ _ _=>rfl,Heap.Le.refl _,λb hb=> .inl hb,hon⟩
  .simp[E,hn];omega
  .intro t av ht
   rw[jy]at ht
   cases hl:look (zT args kin).m t with
   |none=>rw[hl]at ht;cases ht
   |some v=>
    rw[hl]at ht;simp at ht;subst ht
    obtain⟨_,h2⟩:=CG hl;obtain⟨u,hu,hs⟩:=AVs.get t hargs (by simpa using h2);refine⟨u,?_,hs⟩
    have hlt:t<vs.length:=by
     rcases q6h t vs.length with h|h
     .exact h
     .rw[q5D h]at hu;cases hu
    rw[Array.getElem?_append_left (by simpa using hlt)];simpa using hu
  .intro k b hb'
   rw[qz]at hb'
   cases hl:look kin k with
   |none=>simp only[zT,hl]at hb';cases hb'
   |some x=>simp only[zT,hl]at hb';simp at hb';subst hb';exact(hkin _ (qR hl)).1
  .intro k x b c hx hβ
   rw[qz]at hx
   cases hl:look kin k with
   |none=>simp only[zT,hl]at hx;cases hx
   |some y=>
    have hm:=qR hl;obtain⟨h1,h2⟩:=(hkin _ hm).2 b c hβ;exact⟨h1,h2,.inr ⟨k,q6T.2 ⟨_,hm,rfl⟩,c,hβ⟩⟩
  .intro k k' x x' b c c' hx hx' hne hβ
   rw[qz]at hx hx'
   cases hl:look kin k with
   |none=>simp only[zT,hl]at hx;cases hx
   |some y=>
    cases hl':look kin k' with
    |none=>simp only[zT,hl']at hx';cases hx'
    |some y'=>exact hdis _ (qR hl) _ (qR hl') hne b c c' hβ
 refine calls_of_wp hf hb (wp_mono (h E rfl rfl _ w H β hrep) ?_)
 rintro e a w' ⟨st,H',β',⟨he,⟨R',hR',hRR⟩,hblk⟩,hr⟩
 obtain⟨v,hv,hsat⟩:=Kc hr hR';let β2:Bm:=λk=>if k∈qX kin Lw then β' (ρ k)else β k
 have hβK: ∀p∈kin,β' p.1=β p.1:=λp hp=>hr.bor p.1 (q6T.2 ⟨p,hp,rfl⟩)
 have hknn: ∀k∈qX kin Lw,∃b,(k,some b)∈Lw:=by
  intro k hk;simp only[qX,q5R,q6T]at hk;obtain⟨⟨p,⟨hp,hs⟩,rfl⟩,_⟩:=hk;obtain⟨b,hb⟩:=Option.isSome_iff_exists.1 hs;exact⟨b,by rw[<-hb];exact hp⟩
 have hkn: ∀k∈qX kin Lw,(look kin k)=none:=by
  intro k hk;simp only[qX,q5R]at hk;exact Option.isNone_iff_eq_none.1 hk.2
 have hβ2: ∀k,(k∈qX kin Lw\/(look kin k).isSome=true)->β2 k=(λk=>β' (ρ k)) k:=by
  intro k hk;by_cases hm:k∈qX kin Lw
  .simp only[β2,if_pos hm]
  .simp only[β2,if_neg hm]
   rcases hk with hk|hk
   .exact absurd hk hm
   .obtain⟨x,hx⟩:=Option.isSome_iff_exists.1 hk
    have hm:=qR hx;rw[hρK _ hm,hβK _ hm]
 have hblk2: ∀k b,(k,some b)∈Lw->b.rep β2 w' H' k:=by
  intro k b hb';obtain⟨b',h1,h2⟩:=hblk k b hb';have h3:=h2 β' w' H' (hr.blk _ _ (by rw[qz,h1];rfl));refine Blk.rep_congr h3 (Heap.Le.refl _) ?_ (λ_ _ _=>rfl)
  rintro k' (rfl|hm)
  .refine hβ2 _ ?_
   by_cases hq:(look kin k').isSome=true
   .exact .inr hq
   .refine .inl ?_
    simp only[qX,q5R,q6T];refine⟨⟨(k',some b),⟨hb',rfl⟩,rfl⟩,?_⟩
    cases hz:look kin k' with
    |none=>rfl
    |some z=>rw[hz]at hq;simp at hq
  .exact hβ2 _ (hids k' (.inr ⟨k,b,hb',hm⟩))
 have hpost: ∃v' H'' β'',Ending.returned v= .returned v'/\Step w H β (kwOf kin Lw) (qX kin Lw) (vg Lw) w' H'' β''/\R.sat β'' H'' v'/\ ∀k b,(k,some b)∈Lw->b.rep β'' w' H'' k:=by
  refine⟨v,H',β2,rfl,?_,AV.sat_congr (Heap.Le.refl _) (λk hk=>hβ2 k (hids k (.inl hk))) (hRR _ _ _ hsat),hblk2⟩
  have hown: ∀k∈qX kin Lw,∀b c,β' (ρ k)=some (b,c)->H' b=none/\w.heap.size<=b:=by
   intro k hk b c hβ;obtain⟨bb,hbb⟩:=hknn k hk;obtain⟨b',h1,_⟩:=hblk k bb hbb;have hL:j9 st (2*ρ k+1)=some (.bl b'):=by rw[qz,h1];rfl
   obtain⟨o1,o2,o3⟩:=hr.own (ρ k) b' b c hL hβ;refine⟨o1,?_⟩;rcases o3 with o3|⟨k0,hk0,c0,o3⟩
   .exact o3
   .exfalso
    obtain⟨p,hp,rfl⟩:=q6T.1 hk0;obtain⟨b0,hb0⟩:=hkL p hp;obtain⟨b0',h0,_⟩:=hblk p.1 b0 hb0;rw[hρK p hp]at h0;have hL0:j9 st (2*p.1+1)=some (.bl b0'):=by rw[qz,h0];rfl
    have hkp:k≠p.1:=by
     intro e;have:=hkn k hk;rw[e,hkinL p hp]at this;cases this
    have hne:ρ k≠p.1:=by
     have:=hρn k hk p.1 b0 hb0 hkp
     rwa [hρK p hp]at this
    exact hr.inj (ρ k) p.1 b' b0' b c c0 hL hL0 hne hβ (by rw[hβK p hp];exact o3)
  refine⟨hr.os,hr.tape,hr.output,hr.wsize,?_,hr.hle,hr.hnew,hr.hon,?_,?_,?_⟩
  .intro b hb' hk
   refine hr.frame b hb' λk hk' c=>?_
   obtain⟨p,hp,rfl⟩:=q6T.1 hk';obtain⟨b0,hb0⟩:=hkL p hp;refine hk p.1 ?_ c;simp only[kwOf,q5R,q6T];exact⟨⟨_,hb0,rfl⟩,by rw[hkinL p hp];rfl⟩
  .intro k hk;simp only[β2,if_neg hk]
  .intro k hk b c hβ
   simp only[β2,if_pos hk]at hβ;obtain⟨o1,o2⟩:=hown k hk b c hβ;exact⟨o1,.inl o2⟩
  .intro k hk k' hk' hne b c c' hβ hβ'
   simp only[β2,if_pos hk]at hβ;simp only[β2,if_pos hk']at hβ';obtain⟨bb,hbb⟩:=hknn k hk;obtain⟨bb',hbb'⟩:=hknn k' hk';obtain⟨x,h1,_⟩:=hblk k bb hbb;obtain⟨x',h1',_⟩:=hblk k' bb' hbb';exact hr.inj (ρ k) (ρ k') x x' b c c' (by rw[qz,h1];rfl) (by rw[qz,h1'];rfl) (hρn k hk k' bb' hbb' hne) hβ hβ'
 rcases he with rfl|rfl
 .exact⟨hr.defers,v,hv,hpost⟩
 .exact⟨hr.defers,v,hv,hpost⟩
structure RetP (P:Program) (fn:Func) (R:AV) (e:Exit) (st:ASt):Prop where
 e:e= .normal\/e= .ret
 res: ∃R',BG P st fn.results.toList=some R'/\ ∀β H v,R'.sat β H v->R.sat β H v
abbrev Sig(P:Program)(f:FuncId)(args:List AV)(R:AV):Prop:=vQ P f args [] R []
theorem TN{P:Program}{f:FuncId}{fn:Func}{c:Code}{n:Nat}{args:List AV}{R:AV}
  (hf:P.funcs[f]?=some fn)(hb:fn.body=some c)(hn:fn.ntmps=n)(hname:fn.name≠ "runtime.NumGoroutine")(hlen:args.length<=n)(hR: ∀k,R.men k=false)
  (h:Tr P n [] c (zT args []) (RetP P fn R)):Sig P f args R:=by
 refine AZ (λk=>k) hf hb hn hname hlen (λp hp=>by simp at hp) (λp hp=>by simp at hp) (λp hp=>by simp at hp) (λp hp=>by simp at hp) (λk hk=>by simp[qX]at hk) ?_ ?_
 .rintro k (hk|⟨k',b,hb',_⟩)
  .rw[hR k]at hk;cases hk
  .simp at hb'
 .intro E hn hK a w H β hr
  refine wp_mono (h E hn hK a w H β hr) ?_
  rintro e a' w' ⟨st',H',β',⟨he,R',h1,h2⟩,hr'⟩
  exact⟨st',H',β',⟨he,⟨R',h1,h2⟩,λk b hb'=>by simp at hb'⟩,hr'⟩
section
def BS:Nat->Nat->List Nat
 |0,_=>[]
 |f+1,n=>if n=0 then[]else n%4294967296::BS f (n/4294967296)
theorem ER : ∀ (f g n : Nat), n <= f -> n <= g -> BS f n = BS g n
  | 0, 0, _, _, _ => rfl
  | 0, g + 1, n, h, _ => by have : n = 0 := by omega
                            subst this; simp [BS]
  | f + 1, 0, n, _, h => by have : n = 0 := by omega
                            subst this; simp [BS]
  | f + 1, g + 1, n, h, k => by
    simp only [BS];by_cases e : n = 0
    · simp [e]
    · rw [if_neg e, if_neg e, ER f g (n / 4294967296) (by omega) (by omega)]
def limbs(n:Nat):List Nat:=BS n n
theorem Ao:limbs 0=[]:=rfl
theorem zz{n:Nat}(h:n≠0):limbs n=n%4294967296::limbs (n/4294967296):=by
 unfold limbs
 match n,h with
 |m+1,h=>
  rw[BS,if_neg h,ER m _ _ (by omega) (q6d _)]
def qa:List Nat->Nat
 |[]=>0
 |u::r=>u+4294967296*qa r
theorem qN(n:Nat):qa (limbs n)=n:=by
 induction n using Nat.strongRecOn with
 |_ n ih=>
  by_cases e:n=0
  .subst e;rfl
  .rw[zz e,qa,ih (n/4294967296) (by omega)];omega
theorem jr(n:Nat): ∀u∈limbs n,u<4294967296:=by
 induction n using Nat.strongRecOn with
 |_ n ih=>
  by_cases e:n=0
  .subst e;intro u hu;simp[Ao]at hu
  .rw[zz e];intro u hu
   rcases q5O.1 hu with rfl|hu
   .omega
   .exact ih _ (by omega) u hu
def Aq:List Nat->Bool
 |[]=>true
 |[u]=>u !=0
 |_::r=>Aq r
theorem EG{u:Nat}{r:List Nat}(h:r≠[]):Aq (u::r)=Aq r:=by
 cases r with
 |nil=>exact absurd rfl h
 |cons=>rfl
theorem P9(n:Nat):Aq (limbs n)=true:=by
 induction n using Nat.strongRecOn with
 |_ n ih=>
  by_cases e:n=0
  .subst e;rfl
  .rw[zz e]
   by_cases e':n/4294967296=0
   .rw[e',Ao]
    have:n%4294967296=n:=by omega
    rw[this];simp[Aq,e]
   .rw[EG (by rw[zz e'];simp)]
    exact ih _ (by omega)
theorem MJ: ∀{ls:List Nat},Aq ls=true->ls≠[]->0<qa ls
 |[],_,h=>absurd rfl h
 |[u],h,_=>by simp[Aq]at h;simp[qa];omega
 |u::v::r,h,_=>by
  have:=MJ (ls:=v::r) h (by simp);rw[qa];omega
theorem Ez: ∀{ls:List Nat},(∀u∈ls,u<4294967296)->Aq ls=true->limbs (qa ls)=ls
 |[],_,_=>rfl
 |u::r,h,hn=>by
  have hu:=h u q5Q;have hp:=MJ hn (by simp);rw[zz (by omega),qa];have e1:(u+4294967296*qa r)%4294967296=u:=by omega
  have e2:(u+4294967296*qa r)/4294967296=qa r:=by omega
  rw[e1,e2,Ez (λv hv=>h v (q5P _ hv)) (by
   cases r with
   |nil=>rfl
   |cons=>exact hn)]
def nl(n:Nat):Nat:=(limbs n).length
theorem Jj:nl 0=0:=rfl
theorem Ig{n:Nat}(h:n≠0):nl n=1+nl (n/4294967296):=by
 unfold nl;rw[zz h];simp;omega
theorem Xl{m n:Nat}(h:m<=n):nl m<=nl n:=by
 induction n using Nat.strongRecOn generalizing m with
 |_ n ih=>
  by_cases e:m=0
  .subst e;simp[Jj]
  .have h1:=Ig e
   have h2:=Ig (n:=n) (by omega);have:= @ih (n/4294967296) (by omega) (m/4294967296) (Nat.div_le_div_right h);omega
theorem Pe{n:Nat}:nl n=0↔n=0:=by
 constructor
 .intro h
  by_cases e:n=0
  .exact e
  .rw[Ig e]at h;omega
 .rintro rfl;rfl
theorem vH: ∀(ls:List Nat),(∀u∈ls,u<4294967296)->qa ls<4294967296^ls.length
 |[],_=>by simp[qa]
 |u::r,h=>by
  have:=vH r (λv hv=>h v (q5P _ hv));have hu:=h u q5Q;rw[qa,q5H,q6x];omega
theorem BT(n:Nat):n<4294967296^nl n:=by
 have:=vH (limbs n) (jr n)
 rwa [qN]at this
theorem G9 {n k : Nat} (h : n < 4294967296 ^ k) : nl n <= k := by
  induction k generalizing n with
  | zero => have : n = 0 := by simp at h; exact h
            subst this; simp [Jj]
  | succ k ih =>
    by_cases e : n = 0
    · subst e; simp [Jj]
    · rw [Ig e]
      have := ih (n := n / 4294967296) (by rw [q6x] at h; omega);omega
def flP(cells:List CAtom)(n:Nat):Pred where
 p H v:= ∃a c,v= .slice a n c/\n<=c/\(cells=[]\/ ∃b off arr,a=some ⟨b,off,none⟩/\H b=some arr/\CSats H cells ((arr.toList.drop off).take cells.length))
 mono:=by
  rintro H H' v h ⟨a,c,rfl,hnc,hc⟩
  refine⟨a,c,rfl,hnc,?_⟩;rcases hc with hc|⟨b,off,arr,h1,h2,h3⟩
  .exact .inl hc
  .exact .inr ⟨b,off,arr,h1,h _ _ h2,h3.mono h⟩
 one:=by rintro H v ⟨a,c,rfl,_⟩;rfl
theorem WF{cells row:List CAtom}{n es j:Nat}{i:Int}(hi:i=(j:Int))(hj:j<n)(hl:cells.length=n*es)(hr:(cells.drop (j*es)).take row.length=row)(h0:0<es):Kt (flP cells n) es i row:=by
 rintro H v ⟨a,c,rfl,hnc,hc⟩
 have hpos:0<cells.length:=by rw[hl];exact q6s (by omega) h0
 rcases hc with hc|⟨b,off,arr,rfl,h2,h3⟩
 .rw[hc]at hpos;simp at hpos
 .refine⟨b,off,n,c,arr,rfl,by omega,by omega,h2,?_⟩
  have e:i.toNat=j:=by omega
  rw[e];have:=(h3.drop (j*es)).take row.length;rw[hr,List.drop_take,q5t,q61]at this
  rwa [q6i (by
   have h4:row.length<=(cells.drop (j*es)).length:=by
    have:=congrArg List.length hr;simp only[q5L]at this;omega
   rw[q5I]at h4
   exact h4)]at this
theorem NE(cells:List CAtom)(n:Nat):Ox (flP cells n) n:=λ_ _⟨a,c,h,_⟩=>⟨a,c,h⟩
def Py(ls:List Nat):List CAtom:=ls.map λ(u:Nat)=> .val (.int .u32 (u:Int))
abbrev Va(ls:List Nat):Pred:=flP (Py ls) ls.length
abbrev natP(n:Nat):Pred:=Va (limbs n)
def denL(d:Nat):List Nat:=if d=1 then[]else limbs d
abbrev denP(d:Nat):Pred:=Va (denL d)
def dl(d:Nat):Nat:=(denL d).length
abbrev crc0(x:Rat):CAtom:= .val (.bool (decide (x.num<0)))
abbrev crc1(x:Rat):CAtom:= .abs (natP x.num.natAbs)
abbrev crc2(x:Rat):CAtom:= .abs (denP x.den)
theorem MX{x:Int}(h1: -9223372036854775808<=x)(h2:x<9223372036854775808):IntKind.i64.wrap x=x:=by
 simp only[IntKind.wrap,IntKind.bits,IntKind.signed];simp;omega
theorem MY{x:Int}(h1:0<=x)(h2:x<18446744073709551616):IntKind.u64.wrap x=x:=by
 simp only[IntKind.wrap,IntKind.bits,IntKind.signed];simp;omega
theorem TX{x:Int}(h1:0<=x)(h2:x<4294967296):IntKind.u32.wrap x=x:=by
 simp only[IntKind.wrap,IntKind.bits,IntKind.signed];simp;omega
theorem Fz{x:Nat}(h:x<9223372036854775808):IntKind.i64.wrap (x:Int)=(x:Int):=MX (by omega) (by omega)
theorem Ak{x:Nat}(h:x<18446744073709551616):IntKind.u64.wrap (x:Int)=(x:Int):=MY (by omega) (by omega)
theorem Sj{x:Nat}(h:x<4294967296):IntKind.u32.wrap (x:Int)=(x:Int):=TX (by omega) (by omega)
theorem remN(a b:Nat):(a:Int).tmod (b:Int)=((a%b:Nat):Int):=(Int.ofNat_tmod a b).symm
theorem NN(x:Nat):IntKind.u32.wrap (x:Int)=((x%4294967296:Nat):Int):=by
 simp only[IntKind.wrap,IntKind.bits,IntKind.signed];simp
section
variable {P:Program}
def vy(P:Program)(t:TypeId):Bool:=match P.underlying t with|some (.slice _)=>true|_=>false
def jH(P:Program)(t:TypeId):Option Nat:=match P.underlying t with|some (.slice e)=>(match P.info? e with|some i=>some i.size|none=>none)|_=>none
def intK(P:Program)(t:TypeId):Option IntKind:=match P.underlying t with|some (.int k)=>some k|_=>none
theorem jR{t:TypeId}{es:Nat}(h:jH P t=some es): ∃e i,P.underlying t=some (.slice e)/\P.info? e=some i/\i.size=es:=by
 unfold jH at h;split at h
 .rename_i e h1
  split at h
  .rename_i i h2
   simp at h;exact⟨e,i,h1,h2,h⟩
  .cases h
 .cases h
theorem gIdx{t ty:TypeId}{x y:Operand}{A:Pred}{kk:IntKind}{i:Int}{es:Nat}{row:List CAtom}(h:jH P t=some es)(hA:Kt A es i row):
  OpOk P (.indexAddr t x y) ty [(x,.c (.one (.abs A))),(y,qo kk i)] [] (.c (.one (.ptr row))) []:=by
 obtain⟨e,ie,h1,h2,rfl⟩:=jR h;exact Ha h1 h2 hA
theorem q1n{t ty:TypeId}{x y:Operand}{k off len cap es:Nat}{kk:IntKind}{i:Int}{j:Nat}{o:Nat}(h:jH P t=some es)(hi:i=(j:Int))(hj:j<len)(ho:o=off+j*es):
  OpOk P (.indexAddr t x y) ty [(x,.c (.one (.sl k off len cap))),(y,qo kk i)] [] (.c (.one (.loc k o))) []:=by
 obtain⟨e,ie,h1,h2,rfl⟩:=jR h;subst ho;have e:j=i.toNat:=by omega
 rw[e];exact Ij h1 h2 (by omega) (by omega)
theorem q1m{t ty:TypeId}{x y:Operand}{k len es:Nat}{kk:IntKind}{i:Int}{j:Nat}{o:Nat}(h:jH P t=some es)(hi:i=(j:Int))(hj:j<len)(ho:o=j*es):
  OpOk P (.indexAddr t x y) ty [(x,.c (.one (.gs k len))),(y,qo kk i)] [] (.c (.one (.loc k o))) []:=by
 obtain⟨e,ie,h1,h2,rfl⟩:=jR h;subst ho;have e:j=i.toNat:=by omega
 rw[e];exact Ii h1 h2 (by omega) (by omega)
theorem gLen{t ty:TypeId}{x:Operand}{A:Pred}{n:Nat}(h:vy P t=true)(hA:Ox A n):
  OpOk P (.call {callee:= .builtin .len,args:= #[x],argTypes:= #[t]}) ty [(x,.c (.one (.abs A)))] [] (qo .i64 n) []:=by
 unfold vy at h;split at h
 .rename_i e he;exact Ff he (Xd hA)
 .cases h
end
theorem CAtom.of_up{β:Bm}{H:Heap}{a:CAtom}{v:Value}(h:a.up.sat β H v):a.sat H v:=by cases a<;>exact h
theorem CSats.of_up{β:Bm}{H:Heap}: ∀{l:List CAtom}{vs:List Value},Sats β H (l.map CAtom.up) vs->CSats H l vs
 |[],[],_=>trivial
 |_::_,_::_,h=>⟨CAtom.of_up h.1,CSats.of_up h.2⟩
 |[],_::_,h=>h.elim
 |_::_,[],h=>h.elim
end
section
section
variable {P:Program}
theorem vW{t e:TypeId}{ie:TypeInfo}(h:P.underlying t=some (.slice e))(he:P.info? e=some ie)(a:Option Addr)(len cap:Nat)(lo hi:Option (IntKind×Int)){l r:Nat}
  (hl:(match lo with|some (_,i)=>i|none=>0)=(l:Int))(hr:(match hi with|some (_,i)=>i|none=>(len:Int))=(r:Int))(hlr:l<=r)(hrc:r<=cap)(w:World):
  (Instr.sliceAt t (.slice a len cap) (lo.map λp=> .int p.1 p.2) (hi.map λp=> .int p.1 p.2) none).run P w= .ok (.slice (if cap=l then a else a.map (·.add (l*ie.size))) (r-l) (cap-l)) w:=by
 have hb: ∀(k:IntKind)(i:Int)(y:Nat)(c:BoundsCode)(j:Nat),i=(j:Int)->j<=y->(Instr.sliceBound (.int k i) y c).run P w= .ok j w:=by
  intro k i y c j hi hj;subst hi;have:(0:Int)<=j/\(j:Int)<=y:=by omega
  simp only[Instr.sliceBound,asIntOf,q6H,q6I,q6G,this,and_self,if_true,q5r]
 have hbounds:(Instr.sliceBounds true len cap (lo.map λp=> .int p.1 p.2) (hi.map λp=> .int p.1 p.2) none).run P w= .ok (l,r,cap) w:=by
  cases lo with
  |none=>
   have hl0:l=0:=by simp at hl;omega
   subst hl0
   cases hi with
   |none=>
    have:r=len:=by simp at hr;omega
    subst this;simp[Instr.sliceBounds]
   |some q=>
    obtain⟨k,i⟩:=q;simp only at hr;simp[Instr.sliceBounds,hb k i cap .sliceAcap r hr hrc]
  |some p=>
   obtain⟨k0,i0⟩:=p;simp only at hl
   cases hi with
   |none=>
    have:r=len:=by simp at hr;omega
    subst this;simp[Instr.sliceBounds,hb k0 i0 r .sliceB l hl hlr]
   |some q=>
    obtain⟨k,i⟩:=q;simp only at hr;simp[Instr.sliceBounds,hb k i cap .sliceAcap r hr hrc,hb k0 i0 r .sliceB l hl hlr]
 simp only[Instr.sliceAt,q6H,qG h,q6G,Instr.slice,hbounds,jO he,q6I]
theorem J1{cells:List CAtom}{n es l r c:Nat}(hl:l<=r)(hr:r<=n)(hc:cells.length=n*es){H:Heap}{a:Option Addr}(h:(flP cells n).p H (.slice a n c)):
  (flP ((cells.drop (l*es)).take ((r-l)*es)) (r-l)).p H (.slice (if c=l then a else a.map (·.add (l*es))) (r-l) (c-l)):=by
 obtain⟨a',c',e,hnc,hh⟩:=h;cases e;refine⟨_,_,rfl,by omega,?_⟩;by_cases hrl:r=l
 .left;rw[hrl];simp
 .have hcl:c≠l:=by omega
  rw[if_neg hcl];rcases hh with hh|⟨b,off,arr,rfl,h2,h3⟩
  .left;rw[hh];simp
  .right
   refine⟨b,off+l*es,arr,by simp[vk],h2,?_⟩;have:=(h3.drop (l*es)).take ((r-l)*es);rw[List.drop_take,q5t,q61]at this
   have e1:((cells.drop (l*es)).take ((r-l)*es)).length=(r-l)*es:=by
    rw[q5L,q5I,hc,<-Nat.sub_mul,q6i (q6r _ (by omega))]
   rw[e1]
   rwa [q6i (by rw[hc,<-Nat.sub_mul];exact q6r _ (by omega))]at this
theorem SQ{t ty:TypeId}{x z:Operand}{cells cells':List CAtom}{n es:Nat}{r:Nat}{k2:IntKind}{i2:Int}(hs:jH P t=some es)(h0:0<es)(hc:cells.length=n*es)
  (hr:i2=(r:Int))(hrn:r<=n)(hcut:(cells.drop (0*es)).take ((r-0)*es)=cells'):
  OpOk P (.slice t x none (some z) none) ty [(x,.c (.one (.abs (flP cells n)))),(z,qo k2 i2)] [] (.c (.one (.abs (flP cells' (r-0))))) []:=
 qP λa w H β hins _ _=>by
  obtain⟨e,ie,h1,h2,rfl⟩:=jR hs;have hx:(flP cells n).p H (a.eval x):=hins _ q5Q;obtain⟨p,c,hxe,hnc,hh⟩:=id hx;have hz:=(hins (z,qo k2 i2) (by simp)).1;simp only at hz;have hsl:=vW (P:=P) h1 h2 p n c none (some (k2,i2)) (l:=0) (r:=r) rfl hr (q6A _) (by omega) w;simp only[q6C,q6D]at hsl;refine⟨_,by rw[hxe]at hx;subst hcut;exact J1 (q6A _) hrn hc hx,λ_ _ _ _=>?_⟩;simp only[execOp,hxe,hz,q6C,q6D,q6H,hsl,q6G,q6I]
theorem OO{t ty:TypeId}{x z:Operand}{k off n cap es:Nat}{r:Nat}{k2:IntKind}{i2:Int}(hs:jH P t=some es)(hr:i2=(r:Int))(hrn:r<=cap):
  OpOk P (.slice t x none (some z) none) ty [(x,.c (.one (.sl k off n cap))),(z,qo k2 i2)] [] (.c (.one (.sl k (off+0*es) (r-0) (cap-0)))) []:=
 qP λa w H β hins _ _=>by
  obtain⟨e,ie,h1,h2,rfl⟩:=jR hs;obtain⟨b,c,hβ,hxe⟩:=hins _ q5Q;simp only at hβ hxe;have hz:=(hins (z,qo k2 i2) (by simp)).1;simp only at hz;have hsl:=vW (P:=P) h1 h2 (some ⟨b,off,none⟩) n cap none (some (k2,i2)) (l:=0) (r:=r) rfl hr (q6A _) (by omega) w;simp only[q6C,q6D]at hsl;refine⟨.slice (some ⟨b,off+0*ie.size,none⟩) (r-0) (cap-0),⟨b,c,hβ,rfl⟩,λ_ _ _ _=>?_⟩;simp only[execOp,hxe,hz,q6C,q6D,q6H,hsl,q6G,q6I];by_cases e:cap=0
  .rw[if_pos e];simp
  .rw[if_neg e];simp[vk]
theorem ST{t ty:TypeId}{x y:Operand}{cells cells':List CAtom}{n es:Nat}{l:Nat}{k1:IntKind}{i1:Int}(hs:jH P t=some es)(h0:0<es)(hc:cells.length=n*es)
  (hl:i1=(l:Int))(hlr:l<=n)(hcut:(cells.drop (l*es)).take ((n-l)*es)=cells'):
  OpOk P (.slice t x (some y) none none) ty [(x,.c (.one (.abs (flP cells n)))),(y,qo k1 i1)] [] (.c (.one (.abs (flP cells' (n-l))))) []:=
 qP λa w H β hins _ _=>by
  obtain⟨e,ie,h1,h2,rfl⟩:=jR hs;have hx:(flP cells n).p H (a.eval x):=hins _ q5Q;obtain⟨p,c,hxe,hnc,hh⟩:=id hx;have hy:=(hins (y,qo k1 i1) (by simp)).1;simp only at hy;have hsl:=vW (P:=P) h1 h2 p n c (some (k1,i1)) none (l:=l) (r:=n) hl rfl hlr (by omega) w;simp only[q6C,q6D]at hsl;refine⟨_,by rw[hxe]at hx;subst hcut;exact J1 hlr (q6d _) hc hx,λ_ _ _ _=>?_⟩;simp only[execOp,hxe,hy,q6C,q6D,q6H,hsl,q6G,q6I]
theorem OR{t ty:TypeId}{x y:Operand}{k off n cap es:Nat}{l:Nat}{k1:IntKind}{i1:Int}(hs:jH P t=some es)(hl:i1=(l:Int))(hlr:l<=n)(hn:n<=cap)(hlc:l<cap):
  OpOk P (.slice t x (some y) none none) ty [(x,.c (.one (.sl k off n cap))),(y,qo k1 i1)] [] (.c (.one (.sl k (off+l*es) (n-l) (cap-l)))) []:=
 qP λa w H β hins _ _=>by
  obtain⟨e,ie,h1,h2,rfl⟩:=jR hs;obtain⟨b,c,hβ,hxe⟩:=hins _ q5Q;simp only at hβ hxe;have hy:=(hins (y,qo k1 i1) (by simp)).1;simp only at hy;have hsl:=vW (P:=P) h1 h2 (some ⟨b,off,none⟩) n cap (some (k1,i1)) none (l:=l) (r:=n) hl rfl hlr (by omega) w;simp only[q6C,q6D]at hsl;refine⟨.slice (some ⟨b,off+l*ie.size,none⟩) (n-l) (cap-l),⟨b,c,hβ,rfl⟩,λ_ _ _ _=>?_⟩;simp only[execOp,hxe,hy,q6C,q6D,q6H,hsl,q6G,q6I];rw[if_neg (by omega)];simp[vk]
theorem SS{t ty:TypeId}{x y z:Operand}{cells cells':List CAtom}{n es:Nat}{l:Nat}{r:Nat}{k1:IntKind}{i1:Int}{k2:IntKind}{i2:Int}(hs:jH P t=some es)(h0:0<es)(hc:cells.length=n*es)
  (hl:i1=(l:Int))(hr:i2=(r:Int))(hlr:l<=r)(hrn:r<=n)(hcut:(cells.drop (l*es)).take ((r-l)*es)=cells'):
  OpOk P (.slice t x (some y) (some z) none) ty [(x,.c (.one (.abs (flP cells n)))),(y,qo k1 i1),(z,qo k2 i2)] [] (.c (.one (.abs (flP cells' (r-l))))) []:=
 qP λa w H β hins _ _=>by
  obtain⟨e,ie,h1,h2,rfl⟩:=jR hs;have hx:(flP cells n).p H (a.eval x):=hins _ q5Q;obtain⟨p,c,hxe,hnc,hh⟩:=id hx;have hy:=(hins (y,qo k1 i1) (by simp)).1;simp only at hy;have hz:=(hins (z,qo k2 i2) (by simp)).1;simp only at hz;have hsl:=vW (P:=P) h1 h2 p n c (some (k1,i1)) (some (k2,i2)) (l:=l) (r:=r) hl hr hlr (by omega) w;simp only[q6C,q6D]at hsl;refine⟨_,by rw[hxe]at hx;subst hcut;exact J1 hlr hrn hc hx,λ_ _ _ _=>?_⟩;simp only[execOp,hxe,hy,hz,q6C,q6D,q6H,hsl,q6G,q6I]
theorem OQ{t ty:TypeId}{x y z:Operand}{k off n cap es:Nat}{l:Nat}{r:Nat}{k1:IntKind}{i1:Int}{k2:IntKind}{i2:Int}(hs:jH P t=some es)(hl:i1=(l:Int))(hr:i2=(r:Int))(hlr:l<=r)(hrn:r<=cap)(hlc:l<cap):
  OpOk P (.slice t x (some y) (some z) none) ty [(x,.c (.one (.sl k off n cap))),(y,qo k1 i1),(z,qo k2 i2)] [] (.c (.one (.sl k (off+l*es) (r-l) (cap-l)))) []:=
 qP λa w H β hins _ _=>by
  obtain⟨e,ie,h1,h2,rfl⟩:=jR hs;obtain⟨b,c,hβ,hxe⟩:=hins _ q5Q;simp only at hβ hxe;have hy:=(hins (y,qo k1 i1) (by simp)).1;simp only at hy;have hz:=(hins (z,qo k2 i2) (by simp)).1;simp only at hz;have hsl:=vW (P:=P) h1 h2 (some ⟨b,off,none⟩) n cap (some (k1,i1)) (some (k2,i2)) (l:=l) (r:=r) hl hr hlr (by omega) w;simp only[q6C,q6D]at hsl;refine⟨.slice (some ⟨b,off+l*ie.size,none⟩) (r-l) (cap-l),⟨b,c,hβ,rfl⟩,λ_ _ _ _=>?_⟩;simp only[execOp,hxe,hy,hz,q6C,q6D,q6H,hsl,q6G,q6I];rw[if_neg (by omega)];simp[vk]
def elB(P:Program)(t:TypeId):Option (Nat×Nat):=match P.underlying t with|some (.slice e)=>(match P.info? e with|some i=>some (i.size,i.bytes)|none=>none)|_=>none
def elZ(P:Program)(t:TypeId):Option (Array Value):=match P.underlying t with|some (.slice e)=>(match P.info? e with|some i=>i.zero.map (·.cells)|none=>none)|_=>none
theorem AI{t:TypeId}{s b:Nat}(h:elB P t=some (s,b)): ∃e i,P.underlying t=some (.slice e)/\P.info? e=some i/\i.size=s/\i.bytes=b:=by
 unfold elB at h;split at h
 .rename_i e h1
  split at h
  .rename_i i h2
   simp at h;exact⟨e,i,h1,h2,h.1,h.2⟩
  .cases h
 .cases h
theorem AJ{t:TypeId}{z:Array Value}(h:elZ P t=some z): ∃e i v,P.underlying t=some (.slice e)/\P.info? e=some i/\i.zero=some v/\v.cells=z:=by
 unfold elZ at h;split at h
 .rename_i e h1
  split at h
  .rename_i i h2
   cases hz:i.zero with
   |none=>rw[hz]at h;cases h
   |some v=>rw[hz]at h;simp at h;exact⟨e,i,v,h1,h2,hz,h⟩
  .cases h
 .cases h
theorem Ko{t:TypeId}{s b:Nat}{z:Array Value}(hb:elB P t=some (s,b))(hz:elZ P t=some z)(k:IntKind)(n:Nat)(hn:n*b<=281474976710656)(hn2:n<9223372036854775808)(hs:0<s)(w:World):
  ∃T,(Instr.makeSlice t (.int k n) (.int k n)).run P w= .ok (.slice (some ⟨w.heap.size,0,none⟩) n n) (w.alloc (.cells ((Array.range (n*s)).map (z[· %z.size]!)) T)):=by
 obtain⟨e,i,h1,h2,rfl,rfl⟩:=AI hb;obtain⟨e',i',v,h1',h2',hz',rfl⟩:=AJ hz;rw[h1]at h1';cases h1'
 rw[h2]at h2';cases h2'
 refine⟨e,?_⟩;have hw:IntKind.i64.wrap (n:Int)=(n:Int):=Fz hn2
 have hbig: ¬((i.bytes:Int)*(n:Int)>2^48):=by
  have:(i.bytes:Int)*n<=281474976710656:=by
   rw[<-q5p,q6o];exact Int.ofNat_le.2 hn
  omega
 have hneg: ¬((n:Int)<0):=by omega
 simp only[Instr.makeSlice,q6H,qG h1,q6G,asInt,asIntOf,q6I,wC h2,hw]
 have hcond: ¬(((decide ((n:Int)<0)||decide ((i.bytes:Int)*(n:Int)>2^48))||decide ((n:Int)<0)||decide ((n:Int)>(n:Int)))=true):=by
  simp only[hneg,hbig,decide_false,Bool.or_false,Bool.false_or,Int.lt_irrefl,gt_iff_lt];simp
 have hcond':(((decide ((n:Int)<0)||decide ((i.bytes:Int)*(n:Int)>2^48))||decide ((n:Int)<0)||decide ((n:Int)>(n:Int))))=false:=by simpa using hcond
 simp only[hcond',q5n,if_false,run_askRoom,q6H,q6G,jO h2,q5r];by_cases h0:n*i.size=0
 .have:n=0:=by
   rcases Nat.mul_eq_zero.1 h0 with h|h
   .exact h
   .omega
  subst this;have hm: ∀f:Nat->Value,(Array.range 0).map f= #[]:=by intro f;simp
  simp only[q6B,if_true,q6I,q6G,newRow,q6H,run_newObj];rw[hm,hm];rfl
 .simp only[h0,if_false,q6H,vO h2 hz',q6G,q6I,newRow,run_newObj]
  rfl
def nnP(cells:List CAtom)(n:Nat):Pred where
 p H v:= ∃q c,v= .slice (some q) n c/\n<=c/\(cells=[]\/ ∃b off arr,q=⟨b,off,none⟩/\H b=some arr/\CSats H cells ((arr.toList.drop off).take cells.length))
 mono:=by
  rintro H H' v h ⟨q,c,rfl,hnc,hc⟩
  refine⟨q,c,rfl,hnc,hc.imp id ?_⟩
  rintro⟨b,off,arr,h0,h1,h2⟩
  exact⟨b,off,arr,h0,h _ _ h1,h2.mono h⟩
 one:=by rintro H v ⟨q,c,rfl,_⟩;rfl
def fcP(cells:List CAtom)(n:Nat):Pred where
 p H v:= ∃a,v= .slice a n n/\(cells=[]\/ ∃b off arr,a=some ⟨b,off,none⟩/\H b=some arr/\CSats H cells ((arr.toList.drop off).take cells.length))
 mono:=by
  rintro H H' v h ⟨a,rfl,hc⟩
  refine⟨a,rfl,hc.imp id ?_⟩
  rintro⟨b,off,arr,h0,h1,h2⟩
  exact⟨b,off,arr,h0,h _ _ h1,h2.mono h⟩
 one:=by rintro H v ⟨a,rfl,_⟩;rfl
theorem q1e{cells:List CAtom}{n:Nat}: ∀H v,(fcP cells n).p H v->(flP cells n).p H v:=by
 rintro H v ⟨a,rfl,h⟩;exact⟨a,n,rfl,q6d _,h⟩
theorem Rk{cells:List CAtom}{n:Nat}: ∀H v,(nnP cells n).p H v->(flP cells n).p H v:=by
 rintro H v ⟨q,c,rfl,hnc,hh⟩
 refine⟨some q,c,rfl,hnc,hh.imp id ?_⟩
 rintro⟨b,off,arr,rfl,h1,h2⟩
 exact⟨b,off,arr,rfl,h1,h2⟩
theorem IA{t e:TypeId}(ht:P.underlying t=some (.slice e))(p:Option Addr)(n c:Nat)(w:World)(d:Nat):(Op.equalIn (d+1) t (.slice p n c) (.slice none 0 0)).run P w= .ok p.isNone w:=by
 rw[Op.equalIn];simp only[q6H,qG ht,q6G];cases p<;>simp
end
end
section
section
variable {P:Program}
def BK(n:Nat)(z:Array Value):List Value:=((Array.range n).map (z[· %z.size]!)).toList
def Bh(s:Nat):Nat->Option (Nat×Nat):=λi=>some (i*s,s)
theorem Iz{t:TypeId}{s b len:Nat}{z:Array Value}{zs cs:List Atom}{parts:Array (Nat×Operand)}{vs:List Cmp}{a:Act}{β:Bm}{H:Heap}
  (hb:elB P t=some (s,b))(hz:elZ P t=some z)(hbig:Nat.ble (len*s) 16777216=true)(hzs:Sats β H zs (BK (len*s) z))(hl:parts.size=vs.length)
  (hf:afill (Bh s) zs (List.zip (parts.toList.map (·.1)) vs)=some cs)(hins: ∀p∈List.zip (parts.toList.map (·.2)) (vs.map AV.c),p.2.sat β H (a.eval p.1))(w:World):
  ∃T arr,(Instr.buildSlice t len (parts.map λ(i,x)=>(i,a.eval x))).run P w= .ok (.slice (some ⟨w.heap.size,0,none⟩) len len) (w.alloc (.cells arr T))/\Sats β H cs arr.toList:=by
 obtain⟨e,i,h1,h2,rfl,rfl⟩:=AI hb;obtain⟨e',i',v,h1',h2',hz',rfl⟩:=AJ hz;rw[h1]at h1';cases h1'
 rw[h2]at h2';cases h2'
 have hps:=PSats.of_ins (β:=β) (H:=H) (a:=a) (parts:=parts.toList) (vs:=vs) (by simpa using hl) hins;have hle:len*i.size<=16777216:=by simpa using hbig
 have hsat0:Sats β H zs ((Array.range (len*i.size)).map (v.cells[· %v.cells.size]!)).toList:=hzs;obtain⟨arr',ha,hs⟩:=Et (arr:=(Array.range (len*i.size)).map (v.cells[· %v.cells.size]!)) hsat0 hps hf;refine⟨e,arr',?_,hs⟩;have htl:(parts.map λ(i,x)=>(i,a.eval x)).toList=parts.toList.map λp=>(p.1,a.eval p.2):=by simp
 have hnb: ¬len*i.size>2^24:=by omega
 simp only[Instr.buildSlice,q6H,qG h1,q6G,jO h2,hnb,if_false];by_cases h0:len*i.size=0
 .have hm: ∀f:Nat->Value,(Array.range 0).map f= #[]:=by intro f;simp
  rw[h0,hm]at ha;have ha':Instr.fill (λj=>some (j*i.size,i.size)) #[] (parts.toList.map λp=>(p.1,a.eval p.2))=some arr':=ha;simp only[h0,if_true,q6I,q6G,hm,htl,ha',newRow,q6H,run_newObj];rfl
 .have ha':Instr.fill (λj=>some (j*i.size,i.size)) ((Array.range (len*i.size)).map (v.cells[· %v.cells.size]!)) (parts.toList.map λp=>(p.1,a.eval p.2))=some arr':=ha
  simp only[h0,if_false,q6H,vO h2 hz',q6G,q6I,htl,ha',newRow,run_newObj];rfl
theorem Av{t:TypeId}{s b len:Nat}{z:Array Value}{zs cs:List Atom}{parts:Array (Nat×Operand)}{vs:List Cmp}{a:Act}{β:Bm}{H:Heap}
  (hb:elB P t=some (s,b))(hz:elZ P t=some z)(hbig:Nat.ble (len*s) 16777216=true)(hzs:vT (BK (len*s) z)=some zs)(hl:parts.size=vs.length)
  (hf:afill (Bh s) zs (List.zip (parts.toList.map (·.1)) vs)=some cs)(hins: ∀p∈List.zip (parts.toList.map (·.2)) (vs.map AV.c),p.2.sat β H (a.eval p.1))(w:World):
  ∃T arr,(Instr.buildSlice t len (parts.map λ(i,x)=>(i,a.eval x))).run P w= .ok (.slice (some ⟨w.heap.size,0,none⟩) len len) (w.alloc (.cells arr T))/\Sats β H cs arr.toList:=
 Iz hb hz hbig (Bc hzs) hl hf hins w
theorem SP{t ty:TypeId}{s b len d:Nat}{z:Array Value}{zs cs:List Atom}{parts:Array (Nat×Operand)}{vs:List Cmp}
  (hb:elB P t=some (s,b))(hz:elZ P t=some z)(hbig:Nat.ble (len*s) 16777216=true)(hzs:vT (BK (len*s) z)=some zs)(hl:parts.size=vs.length)
  (hf:afill (Bh s) zs (List.zip (parts.toList.map (·.1)) vs)=some cs)(hm:jA d cs=false):
  OpOk P (.buildSlice t len parts) ty (List.zip (parts.toList.map (·.2)) (vs.map AV.c)) [] (.c (.one (.sl d 0 len len))) [(d,some (.rigid cs))]:=by
 intro dst pos after guard a w H β K Q hins _ _ hon hK;obtain⟨T,arr,hrun,hsat⟩:=Av (a:=a) (β:=β) (H:=H) hb hz hbig hzs hl hf hins w;unfold Oper.wp
 have:(execOp a.eval ⟨dst,.buildSlice t len parts,ty,pos,after,guard⟩).run P w= .ok (.value (.slice (some ⟨w.heap.size,0,none⟩) len len)) (w.alloc (.cells arr T)):=by
  simp only[execOp,q6H,hrun,q6G,q6I]
 rw[this];refine hK _ _ H (β.set d (some (w.heap.size,len))) ?_ ⟨_,_,Bm.set_same _ _ _,rfl⟩ ?_
 .simpa[kwOf,qX,vg,look]using Step.alloc (β:=β) d len (.cells arr T) hon
 .intro k' b' hb'
  simp only[q5U,q6F,q6E]at hb';obtain⟨rfl,rfl⟩:=hb';refine⟨w.heap.size,len,arr,T,Bm.set_same _ _ _,wG w _,Sats.congr (Heap.Le.refl _) (λk'' hk''=>?_) hsat⟩;refine Bm.set_other _ _ λe=>?_
  subst e;rw[hm]at hk'';cases hk''
theorem Mc(need cap:Nat)(h:cap<need):Builtin.nextslicecap need cap<=2*need+1000:=by
 unfold Builtin.nextslicecap;split
 .omega
 .split
  .omega
  .have: ∀r c,c<need->Builtin.growBy need r c<=2*need+1000:=by
    intro r
    induction r with
    |zero=>intro c hc;simp only[Builtin.growBy];omega
    |succ r ih=>
     intro c hc;simp only[Builtin.growBy];rw[if_neg (by omega)];by_cases h2:c+(c+768)/4<need
     .exact ih _ h2
     .cases r with
      |zero=>simp only[Builtin.growBy];omega
      |succ r=>simp only[Builtin.growBy];rw[if_pos (by omega)];omega
   exact this 4 cap h
theorem ET(z:Array Value)(n:Nat):(Builtin.zeroCells z n).size=n*z.size:=by simp[Builtin.zeroCells]
theorem Br{cells:List CAtom}{m s:Nat}{H:Heap}{w:World}(hon:Heap.On H w){v:Value}(hv:(flP cells m).p H v)(hc:cells.length=m*s):
  ∃arr:Array Value,(∀w',w'.heap=w.heap->(Builtin.firstCells s m v).run P w'= .ok arr w')/\CSats H cells arr.toList/\arr.size=m*s:=by
 obtain⟨a,c,rfl,_,hh⟩:=hv;rcases hh with hh|⟨b,off,arr,rfl,h2,h3⟩
 .have h0:m*s=0:=by rw[<-hc,hh];rfl
  subst hh
  cases a with
  |none=>exact⟨#[],λw' _=>by simp[Builtin.firstCells],trivial,by simpa using h0.symm⟩
  |some p=>
   refine⟨#[],λw' _=>?_,trivial,by simpa using h0.symm⟩;simp only[Builtin.firstCells,h0];simp[loadCells,loadCellsFrom]
 .obtain⟨T,fz,hw⟩:=hon b arr h2
  have hlen:=CSats.length h3;refine⟨_,λw' hw'=>?_,h3,by simp only[List.size_toArray];omega⟩;have hw1:w'.heap[b]?=some (.cells arr T fz):=by rw[hw'];exact hw
  have:=run_loadCells_list (P:=P) w' ⟨b,off,none⟩ ((arr.toList.drop off).take cells.length) (by
   intro j v hv;rw[vk,Cd hw1]
   have hj:j<cells.length:=by
    rcases q6h j cells.length with h'|h'
    .exact h'
    .rw[q5D (by omega)]at hv;cases hv
   rw[q5E hj,q5B]at hv
   simpa using hv)
  rw[<-hlen]at this;simp only[Builtin.firstCells,<-hc,this]
theorem B9 {ts tx ty e ex : TypeId} {i : TypeInfo} (h1 : P.underlying ts = some (.slice e)) (h2 : P.info? e = some i) (htx : P.underlying tx = some (.slice ex)) {base : Option Addr} {n m cap : Nat} {v : Value} {w : World} {arrx : Array Value}
  (hl : (Builtin.lenOf v).run P w = .ok m w) (hf : (Builtin.firstCells i.size m v).run P w = .ok arrx w) (hroom : n + m <= cap) :
  (Builtin.append_ #[ts, tx] ty #[.slice base n cap, v]).run P w =
   (match base with | some p => (storeCells (p.add (n * i.size)) arrx.toList).run P w | none => .ok () w).andThen λ_ w' => .ok (.slice base (n + m) cap) w' := by
 simp only [Builtin.append_, q5F, q5A, q5z, q6H, qG h1, qG htx, q6G, jO h2, q6I, q5n, if_false, hl, hroom, if_true, Bool.not_false, hf];cases base <;> simp
theorem E1{ts tx ty e ex:TypeId}{i:TypeInfo}{z:Value}(h1:P.underlying ts=some (.slice e))(h2:P.info? e=some i)(hz:i.zero=some z)(htx:P.underlying tx=some (.slice ex)){base:Option Addr}{n m cap:Nat}{v:Value}{w:World}{arrx arro:Array Value}
  (hl:(Builtin.lenOf v).run P w= .ok m w)(hf: ∀w',w'.heap=w.heap->(Builtin.firstCells i.size m v).run P w'= .ok arrx w')(ho: ∀w',w'.heap=w.heap->(Builtin.firstCells i.size n (.slice base n cap)).run P w'= .ok arro w')
  (hroom: ¬n+m<=cap)(hby:i.bytes≠0)(hbig: ¬Builtin.nextslicecap (n+m) cap*i.bytes>2^48):
  ∃(c:Nat)(w1:World),n+m<=c/\w1.heap=w.heap/\w1.os=w.os/\w1.tape=w.tape/\w1.output=w.output/\
  (Builtin.append_ #[ts,tx] ty #[.slice base n cap,v]).run P w= .ok (.slice (some ⟨w.heap.size,0,none⟩) (n+m) c) (w1.alloc (.cells (arro++arrx++Builtin.zeroCells z.cells (c-(n+m))) e)):=by
 refine⟨(Question.appendCap (n+m) cap e).cut (w.tape w.drawn (.appendCap (n+m) cap e)),{w with drawn:=w.drawn+1},by simp[Question.cut],rfl,rfl,rfl,rfl,?_⟩;have hf':=hf {w with drawn:=w.drawn+1} rfl;have ho':=ho {w with drawn:=w.drawn+1} rfl;simp only[Builtin.append_,q5F,q5A,q5z,q6H,qG h1,qG htx,q6G,jO h2,q6I,q5n,if_false,hl,hroom,Bool.not_false,if_true,wC h2,hby,or_self,and_false,hbig,run_choose,Question.forced,run_askRoom,ho',hf',vO h2 hz,newRow,run_newObj];rfl
theorem Heap.On.congr{H:Heap}{w w1:World}(h:Heap.On H w)(e:w1.heap=w.heap):Heap.On H w1:=by
 intro b cs hb;rw[e];exact h b cs hb
theorem NG{ts tx ty ex:TypeId}{x y:Operand}{k d n m s bytes:Nat}{z:Array Value}{cs:List Atom}{cells:List CAtom}
  (hb:elB P ts=some (s,bytes))(hz:elZ P ts=some z)(htx:P.underlying tx=some (.slice ex))(hzs:z.size=s)(hby:0<bytes)(hs:0<s)
  (hc:cells.length=m*s)(hcs:cs.length=n*s)(hbig:(2*(n+m)+1000)*bytes<=281474976710656)(hdk:d≠k)(hmen:jA d cs=false):
  OpOk P (.call {callee:= .builtin .append,args:= #[x,y],argTypes:= #[ts,tx]}) ty [(x,.c (.one (.gs k n))),(y,.c (.one (.abs (flP cells m))))] [(k,.grow s cs)] (.c (.one (.gs d (n+m))))
   [(k,none),(d,some (.grow s (cs++cells.map CAtom.up)))]:=by
 intro dst pos after guard a w H β K Q hins hkin _ hon hK;obtain⟨e,i,h1,h2,rfl,rfl⟩:=AI hb;obtain⟨e',i',zv,h1',h2',hz',rfl⟩:=AJ hz;rw[h1]at h1';cases h1'
 rw[h2]at h2';cases h2'
 have hx:=hins _ q5Q;have hy:(flP cells m).p H (a.eval y):=hins (y,.c (.one (.abs (flP cells m)))) (by simp);obtain⟨hrep,hown⟩:=hkin _ q5Q;simp only at hown;obtain⟨arrx,hfx,hsx,hszx⟩:=Br (P:=P) (s:=i.size) hon hy hc
 have hlenx:(Builtin.lenOf (a.eval y)).run P w= .ok m w:=by
  obtain⟨p,c,hp,_⟩:=hy;rw[hp];simp[Builtin.lenOf]
 have hargs:(#[x,y]:Array Operand).map a.eval= #[a.eval x,a.eval y]:=by simp
 have hkd2:Nat.beq k d=false:=jm (λh=>hdk h.symm)
 have hkn:qX [(k,Blk.grow i.size cs)] [(k,none),(d,some (Blk.grow i.size (cs++cells.map CAtom.up)))]=[d]:=by
  simp[qX,look,hkd2]
 have hkw:kwOf [(k,Blk.grow i.size cs)] [(k,none),(d,some (Blk.grow i.size (cs++cells.map CAtom.up)))]=[k]:=by
  simp[kwOf,look,hkd2]
 have hkd:vg [(k,(none:Option Blk)),(d,some (Blk.grow i.size (cs++cells.map CAtom.up)))]=[k]:=by simp[vg]
 rw[hkn,hkw,hkd]at hK
 have hexec: ∀r,(Builtin.append_ #[ts,tx] ty #[a.eval x,a.eval y]).run P w=r->
   (execOp a.eval ⟨dst,.call {callee:= .builtin .append,args:= #[x,y],argTypes:= #[ts,tx]},ty,pos,after,guard⟩).run P w=r.andThen λv w'=> .ok (.value v) w':=by
  intro r hr;subst hr;simp only[execOp,resolve,q6H,q6I,q6G,invoke,builtin,hargs]
 have hbnd: ∀cap,cap<n+m-> ¬Builtin.nextslicecap (n+m) cap*i.bytes>2^48:=by
  intro cap hcap;have:=Mc (n+m) cap hcap;have h3:Builtin.nextslicecap (n+m) cap*i.bytes<=(2*(n+m)+1000)*i.bytes:=q6r _ this;omega
 have hmenx: ∀H',Heap.Le H H'-> ∀β':Bm,Sats β' H' (cells.map CAtom.up) arrx.toList:=λH' hle β'=>(hsx.mono hle).up
 --a new row
 have hnew: ∀(base:Option Addr)(cap:Nat)(arro:Array Value),a.eval x= .slice base n cap-> ¬n+m<=cap->arro.size=n*i.size->Sats β H cs arro.toList->
   (∀w',w'.heap=w.heap->(Builtin.firstCells i.size n (.slice base n cap)).run P w'= .ok arro w')->Oper.wp P ⟨dst,.call {callee:= .builtin .append,args:= #[x,y],argTypes:= #[ts,tx]},ty,pos,after,guard⟩ a w K Q:=by
  intro base cap arro hxe hroom hsz hso ho;obtain⟨c,w1,hc1,e1,e2,e3,e4,hrun⟩:=E1 (P:=P) (ty:=ty) (v:=a.eval y) h1 h2 hz' htx hlenx (arrx:=arrx) (arro:=arro) hfx ho hroom (by omega) (hbnd cap (by omega));rw[<-hxe]at hrun;have hr:=hexec _ hrun;unfold Oper.wp;rw[hr];have hon1:=hon.congr e1;have hst:=Step.alloc (β:=β) d c (.cells (arro++arrx++Builtin.zeroCells zv.cells (c-(n+m))) e) hon1;have hsize:w1.heap.size=w.heap.size:=by rw[e1]
  rw[hsize]at hst;refine hK _ _ H (β.set d (some (w.heap.size,c))) ⟨by rw[hst.os,e2],by rw[hst.tape,e3],by rw[hst.output,e4],(by simp[hsize]),λb hb' hk'=>?_,hst.hle,λb hb'=> .inl hb',hst.hon,hst.beta,λq hq b c' hb'=>⟨(hst.fresh q hq b c' hb').1,.inl ?_⟩,hst.ninj⟩ (.inr ⟨_,_,Bm.set_same _ _ _,rfl⟩) ?_
  .rw[hst.keep b (by omega) (λq hq=>by simp at hq),e1]
  .have:q=d:=by simpa using hq
   subst this;rw[Bm.set_same]at hb';cases hb';exact q6d _
  .intro q b hqb
   simp only[q5O,q6F,reduceCtorEq,and_false,q6E,q5W,or_false,false_or]at hqb;obtain⟨rfl,rfl⟩:=hqb;refine .inr ⟨w.heap.size,c,_,e,Bm.set_same _ _ _,by rw[<-hsize];exact wG w1 _,?_,?_,?_⟩
   .simp only[Array.size_append,hsz,hszx,ET,hzs]
    rw[<-q63,<-q63]
    congr 1;omega
   .simp only[Array.size_append,hsz,hszx,q5G,q5J,hcs,hc];omega
   .have hl1:(cs++cells.map CAtom.up).length=(arro++arrx).toList.length:=by simp[hcs,hc,hsz,hszx]
    rw[hl1]
    have:(arro++arrx++Builtin.zeroCells zv.cells (c-(n+m))).toList.take (arro++arrx).toList.length=arro.toList++arrx.toList:=by
     rw[Array.toList_append (xs:=arro++arrx),List.take_left,Array.toList_append]
    rw[this];refine Sats.append (Sats.congr (Heap.Le.refl _) (λq' hq'=>Bm.set_other _ _ λe=>?_) hso) (hmenx _ (Heap.Le.refl _) _);subst e;rw[hmen]at hq';cases hq'
 rcases hrep with⟨hβ,hnil⟩|⟨b,c,arr,T,hβ,hw,hcap,hle,hsat⟩
 .--nothing yet
  subst hnil
  have hn0:n=0:=by
   rcases Nat.mul_eq_zero.1 (show n*i.size=0 from by rw[<-hcs];rfl)with h|h
   .exact h
   .omega
  subst hn0;rcases hx with⟨_,_,hxe⟩|⟨b,c,h5,_⟩
  case inr=>rw[hβ]at h5;cases h5
  simp only at hxe;by_cases hm0:m=0
  .subst hm0
   have hrun:=B9 (P:=P) (ty:=ty) (base:=none) (n:=0) (cap:=0) (v:=a.eval y) h1 h2 htx hlenx (hfx w rfl) (by omega);rw[<-hxe]at hrun;have hr:=hexec _ hrun;unfold Oper.wp;rw[hr]
   have hcells:cells=[]:=by
    have:cells.length=0:=by rw[hc];simp
    exact q5w this
   refine hK _ _ H (β.set d none) ⟨rfl,rfl,rfl,q6d _,λ_ _ _=>rfl,Heap.Le.refl _,λb hb'=> .inl hb',hon,λq hq=>Bm.set_other _ _ (by simpa using hq),λq hq b c hb'=>?_,λq hq q' hq' hne=>?_⟩ (.inl ⟨Bm.set_same _ _ _,rfl,by first|rfl|exact hxe⟩) ?_
   .have:q=d:=by simpa using hq
    subst this;rw[Bm.set_same]at hb';cases hb'
   .have e1:q=d:=by simpa using hq
    have e2:q'=d:=by simpa using hq'
    exact absurd (e1.trans e2.symm) hne
   .intro q b hqb
    simp only[q5O,q6F,reduceCtorEq,and_false,q6E,q5W,or_false,false_or]at hqb;obtain⟨rfl,rfl⟩:=hqb;exact .inl ⟨Bm.set_same _ _ _,by rw[hcells];rfl⟩
  .exact hnew none 0 #[] hxe (by omega) (by simp) trivial (λw' _=>by simp[Builtin.firstCells])
 .rcases hx with⟨h5,_⟩|⟨b',c',h5,hxe⟩
  case inl=>rw[hβ]at h5;cases h5
  simp only at hβ hsat;rw[hβ]at h5;cases h5
  simp only at hxe;by_cases hroom:n+m<=c
  .--there is room
   have hspace:n*i.size+arrx.toList.length<=arr.size:=by
    rw[hcap];simp[hszx];rw[<-q63];exact q6r _ hroom
   obtain⟨w',hst,hset⟩:=wB (P:=P) arrx.toList (n*i.size) 0 w arr hw (Sats.oneC (hmenx H (Heap.Le.refl _) β)) (by simpa using hspace);have hrun:=B9 (P:=P) (ty:=ty) (base:=some ⟨b,0,none⟩) (n:=n) (cap:=c) (v:=a.eval y) h1 h2 htx hlenx (hfx w rfl) hroom;simp only[vk,q6z]at hrun;have hst':(storeCells ⟨b,n*i.size,none⟩ arrx.toList).run P w= .ok () w':=hst;rw[hst']at hrun;rw[<-hxe]at hrun;have hr:=hexec _ hrun;unfold Oper.wp;rw[hr];have hst2:=Step.setArr hset hβ (hown b c hβ).1 hon;refine hK _ w' H (β.set d (some (b,c))) ⟨hst2.os,hst2.tape,hst2.output,hst2.size,λb' hb' hk'=>hst2.keep b' hb' hk',Heap.Le.refl _,λb' hb'=> .inl hb',hst2.hon,λq hq=>Bm.set_other _ _ (by simpa using hq),λq hq b' c' hb'=>?_,λq hq q' hq' hne=>?_⟩ (.inr ⟨_,_,Bm.set_same _ _ _,rfl⟩) ?_
   .have:q=d:=by simpa using hq
    subst this;rw[Bm.set_same]at hb';cases hb'
    exact⟨(hown b c hβ).1,.inr ⟨k,by simp,c,hβ⟩⟩
   .have e1:q=d:=by simpa using hq
    have e2:q'=d:=by simpa using hq'
    exact absurd (e1.trans e2.symm) hne
   .intro q bb hqb
    simp only[q5O,q6F,reduceCtorEq,and_false,q6E,q5W,or_false,false_or]at hqb;obtain⟨rfl,rfl⟩:=hqb;have hat:=hset.at_;have hszspl:(spl arr.toList (n*i.size) arrx.toList).length=arr.size:=by simp[spl];simp at hspace;omega
    have hmul:n*i.size+m*i.size<=arr.size:=by simpa[hszx]using hspace
    refine .inr ⟨b,c,_,T,Bm.set_same _ _ _,by simpa using hat,by simpa[hszspl]using hcap,by simp[hszspl,hcs,hc];omega,?_⟩
    have:(spl arr.toList (n*i.size) arrx.toList).take (cs++cells.map CAtom.up).length=arr.toList.take cs.length++arrx.toList:=by
     unfold spl;rw[hcs,<-q5s]
     have hl2:(arr.toList.take (n*i.size)++arrx.toList).length=(cs++cells.map CAtom.up).length:=by
      simp[hcs,hc,hszx];omega
     rw[<-hl2,List.take_left'];rfl
    show Sats _ _ _ ((spl arr.toList (n*i.size+0) arrx.toList).take _);rw[q64,this];refine Sats.append (Sats.congr (Heap.Le.refl _) (λq' hq'=>Bm.set_other _ _ λe=>?_) hsat) (hmenx _ (Heap.Le.refl _) _);subst e;rw[hmen]at hq';cases hq'
  .refine hnew (some ⟨b,0,none⟩) c (arr.toList.take cs.length).toArray hxe hroom (by simp[hcs]at hle⊢;omega) (by simpa using hsat) (λw' hw'=>?_)
   have hw1:w'.heap[b]?=some (.cells arr T (0,0)):=by rw[hw'];exact hw
   have:=run_loadCells_list (P:=P) w' ⟨b,0,none⟩ (arr.toList.take cs.length) (by
    intro j v hv;rw[vk,Cd hw1]
    have hj:j<cs.length:=by
     rcases q6h j cs.length with h'|h'
     .exact h'
     .rw[q5D (by simp;omega)]at hv;cases hv
    rw[q5E hj]at hv
    simpa using hv)
   have hl3:(arr.toList.take cs.length).length=n*i.size:=by simp[hcs]at hle⊢;omega
   rw[hl3]at this;simp only[Builtin.firstCells,this]
end
end
def frzM(ts:List (Nat×Pred)):List (Nat×AV)->List (Nat×AV)
 |[]=>[]
 |(t,v)::r=>(t,match look ts t with|some A=> .c (.one (.abs A))|none=>v)::frzM ts r
def frz(st:ASt)(k:Nat)(ts:List (Nat×Pred)):Option ASt:=
 bif Nat.blt k 100000&&st.m.all (λp=>(look ts p.1).isSome||!p.2.men k)&&st.L.all (λp=>Nat.beq p.1 k||!p.2.men k)then some ⟨frzM ts st.m,del st.L k⟩else none
section
abbrev KV:=(Int×Int)×Int
def keyV(k:Int×Int):Value:= .agg #[.int .i64 k.1,.int .i64 k.2]
def mpL(L:List KV):List (Value×Value):=L.map λp=>(keyV p.1,.int .i64 p.2)
structure MOk (m:Nat) (L:List KV):Prop where
 nd:(L.map (·.1)).Nodup
 kb: ∀p∈L,p.1.1.natAbs<=4611686018427387904/\p.1.2.natAbs<=4611686018427387904
 vb: ∀p∈L,p.2.natAbs<=m
section
variable {P:Program} {mt kt e et:TypeId}
variable {w:World} {b:Nat} {L:List KV} {m:Nat}
end
end
section
open Go Go.RowKit
variable {P:Program} {F:Fence} {n:Nat}
theorem RJ {α : Type} {g : Operand} {ps : Array Tmp} {assign body : Code} {Q : Exit -> Act -> World -> Prop} {a : Act} {w : World}
  (hro : F.round = none) (h1 : 1 <= n) {gf : Nat} {lb : Array Value} (hg : a.eval g = .func (.func gf) #[] lb) (hFg : F.fn gf) (eg : ∀ args w, (callFunc gf args).run P w = .ok (.enter gf args) w)
  {encs : α -> Array Value} {Kp : World -> World -> Prop} {S Sp : List α -> Prop} {N : Nat} {w0 : World} (hseq : SeqStopsK F (n - 1) P gf lb encs Kp S Sp N w0)
  (hKt : ∀ {A B C : World}, Kp A B -> Kp B C -> Kp A C) (hKb : ∀ (W : World) (l : Nat) (o o' : Obj), w.heap.size <= l -> W.heap[l]? = some o -> o.isCells = false -> o.isWalk = false -> Kp W (W.putObj l o')) (hb0 : Below w0.heap.size w0 w) (hps : ∀ x, (encs x).size = ps.size)
  (I : List α -> World -> Prop) (hI : OwnFrom w.heap.size I) (h0 : I [] w)
  (hround : ∀ (l : Nat) (pre : List α) (x : α) (W : World), I pre W -> pre.length < N ->
   assign.wpIn (F.inRound l) (n - 1 - 1) P (Exit.then (λa₁ W₁ => KeepsOthers W W₁ /\ Kp W W₁ /\
     ∀ W₂ row, W₁.grownBy W₂ row -> (∀ r, row = some r -> w.heap.size <= r /\ ∃ o : Obj, W₁.heap[r]? = some o /\ o.isCells = false) ->
      body.wpIn (F.inRound l) (n - 1 - 1) P (λe _ W' => e = .normal /\ KeepsOthers W₂ W' /\ Kp W₂ W' /\ I (pre ++ [x]) W') a₁ W₂) (λ_ _ _ => False))
    { tmps := (ps.zip (encs x)).foldl (λt (p, v) => t.setIfInBounds p v) a.tmps, defers := [] } W)
  (hdone : ∀ (D : Nat) (xs : List α) (W : World), w.heap.size <= D -> S xs -> I xs W -> W.heap[D]? = some (.deferred (some [])) -> Q .normal { a with defers := { target := .collected D, args := #[] } :: a.defers } W) :
  (Code.rangeFunc g ps assign body).wpIn F n P Q a w := by
 refine wpIn_rangeFunc ?_;intro fn hfn;rw [hro];obtain ⟨rec, hrec⟩ : ∃ rec : LoopState -> Option Code -> Loop, rec = λst pe => { state := st, pending := pe, fn, tmps := a.tmps, params := ps, assign, body, defers := w.heap.size } := ⟨_, rfl⟩
 obtain ⟨W1, hW1⟩ : ∃ W1, (w.alloc (.deferred (some []))).alloc (.loop (rec .ready none)) = W1 := ⟨_, rfl⟩
 have hL1 : W1.heap[w.heap.size + 1]? = some (.loop (rec .ready none)) := by
  rw [<- hW1]; have := World.alloc_heap_new (w.alloc (.deferred (some []))) (.loop (rec .ready none)); rwa [World.size_alloc] at this
 have hK1 : W1.heap[w.heap.size]? = some (.deferred (some [])) := by
  rw [<- hW1]; exact (Below.heap_alloc _ _ _ (by simp)).trans (World.alloc_heap_new w _)
 have hI1 : I [] W1 := by rw [<- hW1]; exact hI.alloc _ (hI.alloc _ h0)
 have hb1 : Below w0.heap.size w0 W1 := by
  rw [<- hW1]; exact hb0.trans ((((Below.refl _ w).alloc (q6d _) _).alloc (by simp) _).mono hb0.size)
 refine ⟨w.heap.size + 1, [{ target := .collected w.heap.size, args := #[] }], W1, { target := .fn (.func gf) lb, args := #[.func (.yield (w.heap.size + 1)) #[] #[]] }, W1, gf,
  #[.func (.yield (w.heap.size + 1)) #[] #[]] ++ lb, W1, ?_, ?_, ?_, ?_, λ_ => h1, ?_⟩
 .rw [<- hW1, hrec]; exact run_enterLoop_outer _ _ _ _ _
 .simp only [resolve, hg]
  simp [go_sem]
 .intro f' hf'; simp [Target.leads] at hf'; subst hf'; exact hFg
 .simp [invoke, go_sem, eg]
 .have hnw : ∀ {A B : World} {row : Option Nat}, (∀ r, row = some r -> W1.heap.size <= r /\ ∃ o : Obj, A.heap[r]? = some o /\ o.isWalk = true) -> (∀ r, row = some r -> w.heap.size <= r /\ ∃ o : Obj, A.heap[r]? = some o /\ o.isCells = false) :=
   λhr r e => by obtain ⟨hB, o, ho, hw⟩ := hr r e; exact ⟨by rw [<- hW1] at hB; simp at hB; omega, o, ho, Obj.not_cells_of_walk hw⟩
  refine (hseq (w.heap.size + 1)
   (λpre W => I pre W /\ W.heap[w.heap.size + 1]? = some (.loop (rec .ready none)) /\ W.heap[w.heap.size]? = some (.deferred (some [])))
   (λ_ _ => False)
   W1 hb1
   (λs A B row hs hg' hr => ⟨hI s A B row hs.1 hg' (hnw (B := B) hr), (grownBy_keeps hg' (λr e => (hr r e).2) hs.2.1 rfl).trans hs.2.1, (grownBy_keeps hg' (λr e => (hr r e).2) hs.2.2 rfl).trans hs.2.2⟩)
   (λs A B row hs hg' hr => hs.elim)
   ?_ ⟨hI1, hL1, hK1⟩).mono ?_
  .rintro pre x W ⟨hi, hl, hk⟩ hlen
   have hy := run_yield (P := P) (args := encs x) hl (by rw [hrec]; exact hps x);rw [hrec] at hy;refine ⟨fn, _, assign, body, hy, roundIn_of_wpIn hfn (wpIn_mono (hround _ pre x W hi hlen) ?_)⟩
   rintro e a1 Wa hq
   cases e with
   | normal =>
    obtain ⟨hk1, hkp1, hb⟩ := hq;have hla := hk1.same _ _ hl rfl;have hka := hk1.same _ _ hk rfl;have hlt : w.heap.size + 1 < Wa.heap.size := (q6L.1 hla).1;refine ⟨_, run_beginRound hla (by rw [hrec]), ?_⟩;have hl2 : (Wa.putObj (w.heap.size + 1) (.loop { rec .ready none with state := .busy })).heap[w.heap.size + 1]? = some (.loop { rec .ready none with state := .busy }) := World.putObj_heap_same hlt;have hk2 : (Wa.putObj (w.heap.size + 1) (.loop { rec .ready none with state := .busy })).heap[w.heap.size]? = some (.deferred (some [])) := (World.putObj_heap_other (by omega)).trans hka;have hw2 : Kp Wa (Wa.putObj (w.heap.size + 1) (.loop { rec .ready none with state := .busy })) := hKb _ _ _ _ (by omega) hla rfl rfl;refine wpIn_mono (hb _ (some (w.heap.size + 1)) (grownBy_putObj' Wa _ _) (λr e => by cases e; exact ⟨by omega, _, hla, rfl⟩)) ?_
    rintro e a3 W3 ⟨rfl, hk3, hkp3, hi3⟩
    have hl3 := hk3.same _ _ hl2 rfl;have hend := run_endRound (P := P) none hl3;rw [hrec] at hend;have hl4 : (W3.putObj (w.heap.size + 1) (.loop (rec .ready none))).heap[w.heap.size + 1]? = some (.loop (rec .ready none)) := World.putObj_heap_same (q6L.1 hl3).1;have hk4 : (W3.putObj (w.heap.size + 1) (.loop (rec .ready none))).heap[w.heap.size]? = some (.deferred (some [])) := (World.putObj_heap_other (by omega)).trans (hk3.same _ _ hk2 rfl);refine ⟨_, _, hend, .inl ⟨rfl, ⟨hI.putObj _ hi3 (by omega) hl3 rfl, ?_, ?_⟩, ?_⟩⟩
    .rw [hrec] at hl4 ⊢; exact hl4
    .rw [hrec] at hk4; exact hk4
    .exact hKt (hKt hkp1 (hKt hw2 hkp3)) (hKb _ _ _ _ (by omega) hl3 rfl rfl)
   | _ => exact hq.elim
  .rintro e W2 ⟨⟨v, rfl⟩, (⟨xs, hS, hi, hl, hk⟩ | ⟨pre, hSp, hf⟩)⟩
   .exact ⟨none, _, by have := run_endLoop (P := P) hl (by rw [hrec]; simp); rw [hrec] at this; exact this, hdone _ xs _ (q6d _) hS (hI.putObj _ hi (by omega) hl rfl) ((World.putObj_heap_other (by omega)).trans hk)⟩
   .exact hf.elim
end
end Go.Proofs.YtajflbhmdcgkmaaGreat.Sx
