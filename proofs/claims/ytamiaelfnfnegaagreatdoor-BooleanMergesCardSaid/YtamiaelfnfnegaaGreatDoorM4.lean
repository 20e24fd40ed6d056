/-
Own laws, part 4. No condition.
-/
import Derived.Test.YtamiaelfnfnegaaGreatDoorM3
import Derived.Sort.Walk0
import Derived.Laws.Strings2
import Derived.Laws.Concat
import Derived.Laws.Slices
namespace Go.Proofs.YtamiaelfnfnegaaGreatDoor.Sx
open Go Go.Proofs
set_option linter.unusedVariables false
set_option linter.unusedSimpArgs false
set_option maxRecDepth 20000
set_option maxHeartbeats 4000000
abbrev Bs:=List UInt8
def pcs:Bs->List Bs
 |[]=>[[]]
 |b::l=>if b=43 then[]::pcs l else match pcs l with
  |[]=>[[b]]
  |p::r=>(b::p)::r
theorem Lv: ∀s:Bs,Lib.splitK [43] 0 (Lib.count s [43]) s=pcs s
 |[]=>by
  have:Lib.count [] [43]=0:=rfl;rw[this];rfl
 |b::l=>by
  have ih:=Lv l;by_cases hb:b=43
  .subst hb
   rw[Lib.count_cons_eq,Nat.add_comm];unfold Lib.splitK pcs;have h0:Lib.index (43::l) [43]=0:=by unfold Lib.index;rw[if_pos (by simp)]
   rw[h0,if_neg (by decide),if_pos rfl];simp only[Int.toNat_zero,q5W,List.length_singleton,List.take_zero,List.drop_succ_cons,q4U,ih]
  .rw[Lib.count_cons_ne b 43 l hb]
   unfold pcs;rw[if_neg hb,<-ih]
   cases hk:Lib.count l [43]with
   |zero=>rfl
   |succ k=>
    have hne:Lib.index l [43]≠ -1:=λh=>by rw[Lib.count_miss h]at hk;cases hk
    have hge:=Lib.index_ge l [43];obtain⟨i,hi⟩: ∃i:Nat,Lib.index l [43]=i:=⟨(Lib.index l [43]).toNat,by omega⟩
    have hi2:Lib.index (b::l) [43]=((i+1:Nat):Int):=by
     unfold Lib.index;rw[if_neg (by simp[Ne.symm hb]),if_neg (by simpa using hne),hi];rfl
    unfold Lib.splitK;rw[hi,hi2,if_neg (by rw[beq_iff_eq];omega),if_neg (by rw[beq_iff_eq];omega)];simp only[q4Q,List.length_singleton,q5t,List.take_succ_cons,List.drop_succ_cons]
theorem V7(s:ByteArray):qU (qY s)=pcs (j5 s):=by
 have h:=Lib.splitB_data jZ 0 (Lib.countB s jZ) s;exact h.trans (Lv s.data.toList)
theorem ES: ∀(s x:Bs),x∈pcs s->(43:UInt8)∉x
 |[],x,h=>by simp[pcs]at h;subst h;simp
 |b::l,x,h=>by
  unfold pcs at h;split at h
  .rcases q5d.1 h with rfl|h
   .simp
   .exact ES l x h
  .rename_i hb
   split at h
   .simp at h;subst h;simp[Ne.symm hb]
   .rename_i p r hp
    rcases q5d.1 h with rfl|h
    .have:=ES l p (by rw[hp];simp)
     simp only[q5d,not_or];exact⟨Ne.symm hb,this⟩
    .exact ES l x (by rw[hp];simp[h])
theorem HT: ∀x:Bs,(43:UInt8)∉x->pcs x=[x]
 |[],_=>rfl
 |b::l,h=>by
  simp only[q5d,not_or]at h;unfold pcs;rw[if_neg (Ne.symm h.1),HT l h.2]
theorem Kf: ∀(x y:Bs),(43:UInt8)∉x->pcs (x++43::y)=x::pcs y
 |[],y,_=>by simp[pcs]
 |b::l,y,h=>by
  simp only[q5d,not_or]at h;show(if b=43 then[]::pcs (l++43::y)else match pcs (l++43::y)with|[]=>[[b]]|p::r=>(b::p)::r)=_;rw[if_neg (Ne.symm h.1),Kf l y h.2]
def prt(s:Bs):List Bs:=(pcs s).filter λx=>decide (x≠[])
def jn:List Bs->Bs
 |[]=>[]
 |[x]=>x
 |x::y::r=>x++43::jn (y::r)
theorem Hc: ∀(y:Bs)(r:List Bs),Lib.joinTail [43] (y::r)=43::jn (y::r)
 |y,[]=>by simp[Lib.joinTail,jn]
 |y,z::r=>by
  have:=Hc z r;simp only[Lib.joinTail,q5b,List.flatten_cons]at this⊢;rw[this];simp[jn]
theorem Zu: ∀l:List Bs,Lib.join l [43]=jn l
 |[]=>rfl
 |[x]=>by rw[Lib.join_one];rfl
 |x::y::r=>by rw[Lib.join_cons,Hc];rfl
def Prt(l:List Bs):Prop:= ∀x∈l,x≠[]/\(43:UInt8)∉x
theorem Yh(s:Bs):Prt (prt s):=λx hx=>by
 obtain⟨h1,h2⟩:=q5g.1 hx;exact⟨by simpa using h2,ES s x h1⟩
theorem UB: ∀l:List Bs,l≠[]->Prt l->pcs (jn l)=l
 |[],h,_=>absurd rfl h
 |[x],_,h=>HT x (h x (by simp)).2
 |x::y::r,_,h=>by
  show pcs (x++43::jn (y::r))=_;rw[Kf x _ (h x (by simp)).2,UB (y::r) (by simp) λz hz=>h z (by simp only[q5d]at hz⊢;exact .inr hz)]
theorem q2o{l:List Bs}(h:Prt l):prt (jn l)=l:=by
 by_cases h0:l=[]
 .subst h0;rfl
 .unfold prt
  rw[UB l h0 h,List.filter_eq_self];intro x hx;simpa using(h x hx).1
theorem lt_irr(x:Bs): ¬x<x:=List.lt_irrefl x
theorem lt_tr{x y z:Bs}(h:x<y)(k:y<z):x<z:=List.lt_trans h k
theorem q4g{x y:Bs}(h:x<y): ¬y<x:=λk=>lt_irr x (lt_tr h k)
theorem U8{x y:Bs}(h: ¬x<y):y<=x:=h
theorem Ds{x y:Bs}(h:x<=y)(k:x≠y):x<y:=by
 by_cases g:x<y
 .exact g
 .exact absurd (List.le_antisymm h g) k
theorem q4f{x y z:Bs}(h:x<=y)(k:y<z):x<z:=by
 by_cases e:x=y
 .subst e;exact k
 .exact lt_tr (Ds h e) k
def Srt(l:List Bs):Prop:=l.Pairwise (· < ·)
theorem Om: ∀{a b:List Bs},Srt a->Srt b->(∀x,x∈a↔x∈b)->a=b
 |[],[],_,_,_=>rfl
 |[],y::b,_,_,h=>by have:=(h y).2 (by simp);simp at this
 |x::a,[],_,_,h=>by have:=(h x).1 (by simp);simp at this
 |x::a,y::b,ha,hb,h=>by
  obtain⟨ha1,ha2⟩:=List.pairwise_cons.1 ha;obtain⟨hb1,hb2⟩:=List.pairwise_cons.1 hb
  have e:x=y:=by
   rcases q5d.1 ((h x).1 (by simp))with e|h1
   .exact e
   .rcases q5d.1 ((h y).2 (by simp))with e|h2
    .exact e.symm
    .exact absurd (ha1 y h2) (q4g (hb1 x h1))
  subst e;rw[Om ha2 hb2 λz=>?_];constructor
  .intro hz
   rcases q5d.1 ((h z).1 (by simp[hz]))with rfl|h1
   .exact absurd (ha1 z hz) (lt_irr z)
   .exact h1
  .intro hz
   rcases q5d.1 ((h z).2 (by simp[hz]))with rfl|h1
   .exact absurd (hb1 z hz) (lt_irr z)
   .exact h1
def can(l:List Bs):List Bs:=Lib.compact (l.mergeSort λx y=>decide (x<=y))
theorem V5(l:List Bs):(l.mergeSort λx y=>decide (x<=y)).Pairwise (· <= ·):=by
 have:=List.pairwise_mergeSort (le:=λx y:Bs=>decide (x<=y)) (λa b c h1 h2=>by simp at h1 h2⊢;exact List.le_trans h1 h2) (λa b=>by simp;exact List.le_total a b) l;simpa using this
theorem Wk{l:List Bs}(h:l.Pairwise (· <= ·)):Srt (Lib.compact l):=by
 unfold Srt Lib.compact Lib.compactUpTo;rw[List.pairwise_map,List.pairwise_filter];refine(List.pairwise_lt_range (n:=l.length)).imp_of_mem ?_;intro i j hi hj hij _ hk;have hi:=List.mem_range.1 hi;have hj:=List.mem_range.1 hj
 have hk:l.toArray[j]!≠l.toArray[j-1]!:=by
  have h0:j≠0:=by omega
  simpa[Lib.keeps,h0]using hk
 have gi:(l.toArray[i]!)=l[i]:=by simp[getElem!_pos,hi]
 have gj:(l.toArray[j]!)=l[j]:=by simp[getElem!_pos,hj]
 have hj1:j-1<l.length:=by omega
 have gj1:(l.toArray[j-1]!)=l[j-1]:=by simp[getElem!_pos,hj1]
 rw[gj,gj1]at hk;rw[gi,gj];have hs:=List.pairwise_iff_getElem.1 h;have h2:l[j-1]<l[j]:=Ds (hs (j-1) j hj1 hj (by omega)) (Ne.symm hk);by_cases e:i=j-1
 .subst e;exact h2
 .exact q4f (hs i (j-1) hi hj1 (by omega)) h2
theorem Wj{l:List Bs}{x:Bs}:x∈Lib.compact l↔x∈l:=by
 constructor
 .exact FH
 .intro hx
  obtain⟨i,hi,rfl⟩:=List.mem_iff_getElem.1 hx
  have key: ∀n(hn:n<l.length),l[n]∈Lib.compact l:=by
   intro n
   induction n with
   |zero=>
    intro hn;unfold Lib.compact Lib.compactUpTo;exact List.mem_map.2 ⟨0,q5g.2 ⟨List.mem_range.2 hn,by simp[Lib.keeps]⟩,by simp[getElem!_pos,hn]⟩
   |succ n ih=>
    intro hn;have gj:(l.toArray[n+1]!)=l[n+1]:=by simp[getElem!_pos,hn]
    have gj1:(l.toArray[n]!)=l[n]:=by simp[getElem!_pos,Nat.lt_of_succ_lt hn]
    by_cases e:l[n+1]=l[n]
    .rw[e];exact ih (Nat.lt_of_succ_lt hn)
    .unfold Lib.compact Lib.compactUpTo
     exact List.mem_map.2 ⟨n+1,q5g.2 ⟨List.mem_range.2 hn,by simp[Lib.keeps,gj,gj1,e]⟩,gj⟩
  exact key i hi
theorem Gk(l:List Bs):Srt (can l):=Wk (V5 l)
theorem DB{l:List Bs}{x:Bs}:x∈can l↔x∈l:=Wj.trans (List.mergeSort_perm l _).mem_iff
theorem Te{a b:List Bs}(h: ∀x,x∈a↔x∈b):can a=can b:=Om (Gk a) (Gk b) λx=>DB.trans ((h x).trans DB.symm)
theorem MM{a b:List Bs}(hb:Srt b)(h: ∀x,x∈a↔x∈b):can a=b:=Om (Gk a) hb λx=>DB.trans (h x)
def mrg(x y:Bs):Bs:=jn (can (prt x++prt y))
theorem q3P{a b:List Bs}(ha:Prt a)(hb:Prt b):Prt (can (a++b)):=λx hx=>by
 rcases q5c.1 (DB.1 hx)with h|h
 .exact ha x h
 .exact hb x h
theorem Kg(x y:Bs):prt (mrg x y)=can (prt x++prt y):=q2o (q3P (Yh x) (Yh y))
theorem WX(x y:Bs):mrg x y=mrg y x:=by
 unfold mrg;rw[Te (a:=prt x++prt y) (b:=prt y++prt x) λz=>by simp only[q5c];exact Or.comm]
theorem Uj(x y z:Bs):mrg (mrg x y) z=mrg x (mrg y z):=by
 show jn (can (prt (mrg x y)++prt z))=jn (can (prt x++prt (mrg y z)));rw[Kg,Kg,Te (a:=can (prt x++prt y)++prt z) (b:=prt x++can (prt y++prt z)) λw=>by simp only[q5c,DB];exact or_assoc]
theorem WY(x y:Bs):mrg (mrg x y) (mrg x y)=mrg x y:=by
 show jn (can (prt (mrg x y)++prt (mrg x y)))=jn (can (prt x++prt y));rw[Kg,MM (Gk (prt x++prt y)) λw=>by simp only[q5c,or_self]]
section
section
variable {P:Program}
def cpyL{α:Type}(l:List α)(lo lo2 m:Nat):List α:=l.take lo++((l.drop lo2).take m++l.drop (lo+m))
theorem Wl(t:Ty)(l:List t.den)(lo lo2 m:Nat)(h2:lo2+m<=l.length):spl (qI t l) (lo*t.w) (((qI t l).drop (lo2*t.w)).take (m*t.w))=qI t (cpyL l lo lo2 m):=by
 have e:((qI t l).drop (lo2*t.w)).take (m*t.w)=qI t ((l.drop lo2).take m):=by rw[Fb,Fc]
 unfold spl cpyL;have hl:((l.drop lo2).take m).length=m:=by rw[q5a,q57];omega
 rw[e,Ea,Ea,Fc,zk,hl,<-q5s,Fb]
theorem Wm{α:Type}{l:List α}{lo lo2 m:Nat}{x:α}(h:x∈cpyL l lo lo2 m):x∈l:=by
 unfold cpyL at h;rcases q5c.1 h with h|h
 .exact q5i h
 .rcases q5c.1 h with h|h
  .exact List.mem_of_mem_drop (q5i h)
  .exact List.mem_of_mem_drop h
theorem Step.same{w:World}{H:Heap}{β:Bm}(k:Nat)(h:Heap.On H w):Step w H β [k] [] [] w H β:=
 ⟨rfl,rfl,rfl,q5B _,λ_ _ _=>rfl,Heap.Le.refl _,λb hb=> .inl hb,h,λ_ _=>rfl,λk hk=>by simp at hk,λk hk=>by simp at hk⟩
theorem q47{t u ty:TypeId}{x y:Operand}{k off off2 lo lo2 n1 n2 es bb:Nat}{cs:List Atom}(hb:elB P t=some (es,bb))(hcs:off+n1*es<=cs.length)(hcs2:off2+n2*es<=cs.length):
  OpOk P (.call {callee:= .builtin .copy,args:= #[x,y],argTypes:= #[t,u]}) ty [(x,.c (.one (.so k off lo n1))),(y,.c (.one (.so k off2 lo2 n2)))] [(k,.grow es cs)] (qb .i64 ((min n2 n1:Nat):Int)) [(k,some (.grow es (spl cs off ((cs.drop off2).take (min n2 n1*es)))))]:=by
 intro dst pos after guard a w H β K Q hins hkin _ hon hK;have hx:=hins _ q5f;have hy:=hins (y,.c (.one (.so k off2 lo2 n2))) (by simp);simp only at hx hy;obtain⟨hrep,hown⟩:=hkin _ q5f;simp only at hrep hown;obtain⟨e,i,h1,h2,rfl,rfl⟩:=zL hb
 have hexec: ∀{p1 p2:Option Addr}{c1 c2:Nat}{vs:Array Value}{w':World},a.eval x= .slice p1 n1 c1->a.eval y= .slice p2 n2 c2->(Builtin.firstCells i.size (Nat.min n2 n1) (.slice p2 n2 c2)).run P w= .ok vs w->
   ((match p1 with|some p=>(storeCells p vs.toList).run P w|none=> .ok () w)= .ok () w')->
   (execOp a.eval ⟨dst,.call {callee:= .builtin .copy,args:= #[x,y],argTypes:= #[t,u]},ty,pos,after,guard⟩).run P w= .ok (.value (goInt (Nat.min n2 n1))) w':=by
  intro p1 p2 c1 c2 vs w' ex ey hf hs
  cases p1 with
  |none=>
   simp only[Result.ok.injEq]at hs;simp only[execOp,resolve,q64,q65,q63,invoke,builtin,List.map_toArray,q5b,List.map_nil,ex,ey,Builtin.copy_,q54,q4Z,q4Y,qd h1,Builtin.lenOf,j7 h2,hf];simp[hs]
  |some p=>
   simp only at hs;simp only[execOp,resolve,q64,q65,q63,invoke,builtin,List.map_toArray,q5b,List.map_nil,ex,ey,Builtin.copy_,q54,q4Z,q4Y,qd h1,Builtin.lenOf,j7 h2,hf,hs]
 by_cases hm:n1=0\/n2=0
 .have hm0:min n2 n1=0:=by omega
  have hm1:Nat.min n2 n1=0:=hm0;have hx': ∃p c,a.eval x= .slice p n1 c:=by rcases hx with⟨rfl,p,c,h⟩|⟨b,c,_,h⟩<;>exact⟨_,_,h⟩
  have hy': ∃p c,a.eval y= .slice p n2 c:=by rcases hy with⟨rfl,p,c,h⟩|⟨b,c,_,h⟩<;>exact⟨_,_,h⟩
  obtain⟨p1,c1,ex⟩:=hx';obtain⟨p2,c2,ey⟩:=hy'
  have hf:(Builtin.firstCells i.size (Nat.min n2 n1) (.slice p2 n2 c2)).run P w= .ok #[] w:=by
   rw[hm1]
   cases p2 with
   |none=>simp[Builtin.firstCells]
   |some p=>simp[Builtin.firstCells,loadCells,loadCellsFrom]
  unfold Oper.wp;rw[hexec (w':=w) ex ey hf (by cases p1<;>simp[storeCells])];refine hK _ w H β ?_ ⟨rfl,rfl⟩ ?_
  .simpa[kwOf,qu,jk,look]using Step.same k hon
  .intro k' b1 hb1
   simp only[q5j,q62,q61]at hb1;obtain⟨rfl,rfl⟩:=hb1;have:spl cs off ((cs.drop off2).take (min n2 n1*i.size))=cs:=by rw[hm0];simp[spl]
   rw[this];exact hrep
 .have hn1:n1≠0:=λe=>hm (.inl e)
  have hn2:n2≠0:=λe=>hm (.inr e)
  rcases hx with⟨h,_⟩|⟨b,c,hβ,ex⟩
  .exact absurd h hn1
  rcases hy with⟨h,_⟩|⟨b',c',hβ',ey⟩
  .exact absurd h hn2
  rw[hβ]at hβ';cases hβ'
  rcases hrep with⟨hβ',_⟩|⟨b',c',arr,T,hβ',hw,hcap,hle,hsat⟩
  .rw[hβ]at hβ';cases hβ'
  rw[hβ]at hβ';cases hβ'
  have hmin:Nat.min n2 n1=min n2 n1:=rfl;have q1:min n2 n1*i.size<=n1*i.size:=q5O _ (Nat.min_le_right _ _);have q2:min n2 n1*i.size<=n2*i.size:=q5O _ (Nat.min_le_left _ _);generalize hM:min n2 n1*i.size=M at*;have hV:((arr.toList.drop off2).take M).length=M:=by simp;omega
  have hf:(Builtin.firstCells i.size (Nat.min n2 n1) (.slice (some ⟨b,off2,none⟩) n2 (c-lo2))).run P w= .ok ((arr.toList.drop off2).take M).toArray w:=by
   have:=run_loadCells_list (P:=P) w ⟨b,off2,none⟩ ((arr.toList.drop off2).take M) (by
    intro j v hv;rw[ji,B3 hw]
    have hj:j<M:=by
     rcases q5F j M with h'|h'
     .exact h'
     .rw[q52 (by omega)]at hv;cases hv
    rw[q53 hj,q50]at hv
    simpa using hv)
   rw[hV]at this;simp only[Builtin.firstCells,hmin,hM,this]
  have hs2:Sats β H ((cs.drop off2).take M) ((arr.toList.drop off2).take M):=by
   have:=(hsat.drop off2).take M;rw[List.drop_take,q5q,q5G (by omega)]at this;exact this
  obtain⟨w',hrun,hset⟩:=zi (P:=P) ((arr.toList.drop off2).take M) off 0 w arr hw (Sats.oneC hs2) (by rw[hV];omega);unfold Oper.wp;rw[hexec (w':=w') ex ey hf (by simpa using hrun)];have hspl:(spl cs off ((cs.drop off2).take M)).length=cs.length:=by simp[spl];omega
  have hsplv:(spl arr.toList off ((arr.toList.drop off2).take M)).length=arr.size:=by simp[spl];omega
  refine hK _ w' H β ?_ ⟨rfl,rfl⟩ ?_
  .simpa[kwOf,qu,jk,look]using Step.setArr hset hβ (hown b c hβ).1 hon
  .intro k' b1 hb1
   simp only[q5j,q62,q61]at hb1;obtain⟨rfl,rfl⟩:=hb1;have hat:=hset.at_;rw[q5t]at hat;refine .inr ⟨b,c,_,T,hβ,hat,by simpa[hsplv]using hcap,by simp[hspl,hsplv];omega,?_⟩;have h3:=hsat.spl off hs2;generalize hVV:(arr.toList.drop off2).take M=V at*
   have h4:(spl arr.toList off V).take (spl cs off ((cs.drop off2).take M)).length=spl (arr.toList.take cs.length) off V:=by
    rw[hspl];unfold spl;rw[List.take_append,List.take_append,q5q,List.drop_take];have e1:min cs.length off=off:=by omega
    have e2:min off cs.length=off:=by omega
    simp[q5a];have e3:min off arr.size=off:=by omega
    rw[e3];have e4:List.take (cs.length-off) V=V:=q5o (by omega);rw[e4,e1,q5q,e2,Nat.sub_sub]
   simpa[h4]using h3
def gCpy(P:Program):Op->Option Tmp->(Nat->Option WB)->List WV->HR
 | .call {callee:= .builtin .copy,args:=aas,argTypes:=ts},_,bl,[.c (.one (.so k lo n1 w nb)),.c (.one (.so k2 lo2 n2 w2 nb2))]=>match aas.toList,ts.toList,bl k with
  |[_,_],[t,_],some (.gro t' b l)=>match elB P t with
   |some (es,_)=>bif Nat.beq k k2&&(Nat.beq w t'.w&&(Nat.beq w2 t'.w&&Nat.beq es t'.w))then .ok [lo+n1<=l.length,lo2+n2<=l.length] (vN .i64 nb2 (min n2 n1)) [k] [(k,some (.gro t' b (cpyL l lo lo2 (min n2 n1))))]else .bad
   |none=> .bad
  |_,_,_=> .bad
 |_,_,_,_=> .bad
def IA:Ext P:=⟨gCpy P,by
 intro op dst ty bl vs hl;unfold gCpy;split
 .rename_i aas ts _ _ k lo n1 w nb k2 lo2 n2 w2 nb2
  split
  .rename_i x y t u t' b l ha ht hbl
   split
   .rename_i es bb hb
    cases hc:Nat.beq k k2&&(Nat.beq w t'.w&&(Nat.beq w2 t'.w&&Nat.beq es t'.w))with
    |false=>exact trivial
    |true=>
     simp only[q4L]at hc;obtain⟨q1,q2,q3,q4⟩:=hc;have q1:=q5w q1;have q2:=q5w q2;have q3:=q5w q3;have q4:=q5w q4
     subst q1 q2 q3 q4;have:=Ci ha;subst this
     have:=Ci ht;subst this
     simp only[cond_true];intro hv hbo hvc kin hk hkb;rw[zS hk hkb hbl];have h1:lo+n1<=l.length:=hvc _ q5f;have h2:lo2+n2<=l.length:=hvc (lo2+n2<=l.length) (by simp);have hn:n2<=nb2:=(hv (.c (.one (.so k lo2 n2 t'.w nb2))) (by simp)).1;refine⟨?_,⟨show min n2 n1<=nb2 by omega,rfl⟩,zT (show∀z∈cpyL l lo lo2 (min n2 n1),Bnd t' b z from λz hz=>hbo k _ hbl z (Wm hz))⟩;show OpOk P _ _ [(x,_),(y,_)] [(k,.grow t'.w (qI t' l))] (qb .i64 ((min n2 n1:Nat):Int)) [(k,some (.grow t'.w (qI t' (cpyL l lo lo2 (min n2 n1)))))];rw[<-Wl t' l lo lo2 (min n2 n1) (by omega)];exact q47 hb (by rw[zk,<-q5s];exact q5O _ h1) (by rw[zk,<-q5s];exact q5O _ h2)
   .exact trivial
  .exact trivial
 .exact trivial⟩
end
end
section
section
variable {P:Program}
end
end
section
section
variable {P:Program}
end
end
def rwSF(slot:Nat)(t:Ty)(b:Bd)(y:t.den)(st:WSt):Option (List Prop×WSt):=
 match look st.m slot with
 |some (.c (.one (.dt t' b' x)))=>if h:t'.beq t=true then(bif jM st.m then some ([va h x=y,Bnd t b y],setV st slot (.c (.one (.dt t b y))))else none)else none
 |some (.c (.agg [.dt t' b' x]))=>if h:t'.beq t=true then(bif jM st.m then some ([va h x=y,Bnd t b y],setV st slot (.c (.agg [.dt t b y])))else none)else none
 |_=>none
def rwS(slot:Nat)(t:Ty)(b:Bd)(y:t.den):PExt:=⟨λ_ st=>rwSF slot t b y st,by
 intro n Ks st st' vc hk h hvc;unfold rwSF at h;split at h
 .rename_i t' b' x hl
  split at h
  .rename_i hb
   have:=Ty.beq_eq hb;subst this
   cases hn:jM st.m with
   |false=>rw[hn]at h;cases h
   |true=>
    rw[hn]at h;simp only[cond_true,q61,q62]at h;obtain⟨rfl,rfl⟩:=h
    have e:va hb x=y:=hvc _ q5f;have e2:Bnd t' b y:=hvc (Bnd t' b y) (by simp);rw[Dp]at e;subst e
    have h0:(WV.c (.one (.dt t' b' x))).ok:=hk.m slot _ (by unfold qO;rw[hl]);exact De hk hn hl rfl ⟨e2,h0.2⟩
  .cases h
 .rename_i t' b' x hl
  split at h
  .rename_i hb
   have:=Ty.beq_eq hb;subst this
   cases hn:jM st.m with
   |false=>rw[hn]at h;cases h
   |true=>
    rw[hn]at h;simp only[cond_true,q61,q62]at h;obtain⟨rfl,rfl⟩:=h
    have e:va hb x=y:=hvc _ q5f;have e2:Bnd t' b y:=hvc (Bnd t' b y) (by simp);rw[Dp]at e;subst e
    exact De hk hn hl rfl (v8 e2)
  .cases h
 .cases h⟩
section
section
variable {P:Program}
end
end
section
section
variable {P:Program}
end
end
section
section
variable {P:Program}
end
end
section
section
variable {P:Program}
def bytB(s:ByteArray)(i:Nat):Nat:=(s.data.toList.getD i 0).toNat
theorem YK(s:ByteArray)(i:Nat):bytB s i<=255:=q5A (s.data.toList.getD i 0).toNat_lt
def ltB(s t:ByteArray):Prop:=Op.bytesLess s.toList t.toList=true
instance(s t:ByteArray):Decidable (ltB s t):=inferInstanceAs (Decidable (_=true))
def asS:WA->Option (Nat×ByteArray)
 | .dt .str (.n b) s=>some (b,s)
 | .vl (.string s)=>some (s.size,s)
 |_=>none
theorem zX{a:WA}{b:Nat}{s:ByteArray}(h:asS a=some (b,s)):(WV.c (.one a)).exp= .c (.one (.val (.string s)))/\(a.ok->s.size<=b):=by
 unfold asS at h;split at h
 .simp only[q61,q62]at h;obtain⟨rfl,rfl⟩:=h;exact⟨rfl,λh=>h⟩
 .simp only[q61,q62]at h;obtain⟨rfl,rfl⟩:=h;exact⟨rfl,λ_=>q5B _⟩
 .cases h
def gStr(P:Program)(op:Op)(dst:Option Tmp)(bl:Nat->Option WB)(vs:List WV):HR:=
 match op,vs with
 | .call {callee:= .builtin .len,args:=aas,argTypes:=ats},[.c (.one a)]=>match aas.toList,ats.toList with
  |[_],[t]=>match P.underlying t,asS a with
   |some .string,some (b,s)=>bif Nat.ble b 9223372036854775807 then .ok [] (vN .i64 b s.size) [] []else .bad
   |_,_=> .bad
  |_,_=> .bad
 | .index t _ _,[.c (.one a),.c (.one i)]=>match P.underlying t with
  |some .string=>match asS a,asN i with
   |some (_,s),some (_,_,n)=> .ok [n<s.size] (vN .u8 255 (bytB s n)) [] []
   |_,_=> .bad
  |_=> .bad
 | .slice t _ (some _) (some _) none,[.c (.one a),.c (.one i),.c (.one j)]=>match P.underlying t with
  |some .string=>match asS a,asN i,asN j with
   |some (b,s),some (_,_,l),some (_,_,h)=> .ok [l<=h,h<=s.size] (.c (.one (.dt .str (.n b) (s.extract l h)))) [] []
   |_,_,_=> .bad
  |_=> .bad
 | .binOp o _ _ _ _,[.c (.one a),.c (.one b)]=>match asS a,asS b with
  |some (m,s),some (n,t)=>match o with
   | .add=>bif Nat.ble (m+n) 4611686018427387904 then .ok [] (.c (.one (.dt .str (.n (m+n)) (s++t)))) [] []else .bad
   | .lss=> .ok [] (.c (.one (.pp (ltB s t) inferInstance))) [] []
   | .eql=> .ok [] (.c (.one (.pp (s=t) inferInstance))) [] []
   | .neq=> .ok [] (.c (.one (.pp (s≠t) inferInstance))) [] []
   |_=> .bad
  |_,_=> .bad
 |_,_=> .bad
theorem toList_inj{s t:ByteArray}:(s.toList==t.toList)=decide (s=t):=by
 rw[Bool.eq_iff_iff];simp only[beq_iff_eq,decide_eq_true_eq];refine⟨λh=>?_,λh=>by rw[h]⟩;rw[ByteArray.toList_eq,ByteArray.toList_eq]at h;apply ByteArray.ext;exact Array.toList_inj.1 h
def extS:Ext P:=⟨gStr P,by
 intro op dst ty bl vs hl;unfold gStr;split
 .rename_i aas ats a
  split
  .rename_i x t hx ht
   have haa:aas= #[x]:=by apply Array.ext';rw[hx]
   have htt:ats= #[t]:=by apply Array.ext';rw[ht]
   subst haa htt;split
   .rename_i b s hu hs
    cases h0:Nat.ble b 9223372036854775807 with
    |false=>exact trivial
    |true=>
     intro hv _ hvc kin hkk _;rw[qg hkk];have o1:=(zX hs).2 (hv _ q5f).1;refine⟨?_,⟨o1,rfl⟩,qo⟩;show OpOk P _ ty [(x,(WV.c (.one a)).exp)] [] (qb .i64 (s.size:Int)) [];rw[(zX hs).1];refine qk λac w H β hins _ _=>⟨.int .i64 s.size,⟨rfl,rfl⟩,λ_ _ _ _=>?_⟩
     have hx:=(hins _ q5f).1;simp only at hx;have hr:=run_len_string (P:=P) w t ty s hu;simp[execOp,resolve,invoke,builtin,hx,hr,Result.andThen,goInt]
   .exact trivial
  .exact trivial
 .rename_i t x y a i
  split
  .rename_i hu
   split
   .rename_i b s k c n hs hn
    intro hv _ hvc kin hkk _;rw[qg hkk];have hlt:n<s.size:=hvc _ q5f;refine⟨?_,⟨YK s n,rfl⟩,qo⟩;show OpOk P _ ty [(x,(WV.c (.one a)).exp),(y,(WV.c (.one i)).exp)] [] (qb .u8 ((bytB s n:Nat):Int)) [];rw[(zX hs).1,jl (jO hn).1];refine qk λac w H β hins _ _=>⟨.int .u8 (bytB s n:Nat),⟨rfl,rfl⟩,λ_ _ _ _=>?_⟩
    have hx:=(hins _ q5f).1;have hy:=(hins (y,qb k (n:Int)) (by simp)).1;simp only at hx hy
    have e:(s[n]'hlt).toNat=bytB s n:=by
     unfold bytB;rw[q4X];have h2:n<s.data.toList.length:=by simpa using hlt
     rw[q51 h2];rfl
    have hr:=run_index_string (P:=P) w t s k (n:Int) hu;rw[dif_pos ⟨q4P n,by omega⟩]at hr;simp[execOp,hx,hy,hr,Result.andThen,e]
   .exact trivial
  .exact trivial
 .rename_i t x y z a i j
  split
  .rename_i hu
   split
   .rename_i b s k c l k' c' h hs hi hj
    intro hv _ hvc kin hkk _;rw[qg hkk];have h1:l<=h:=hvc _ q5f;have h2:h<=s.size:=hvc _ (q5e _ q5f);have o1:=(zX hs).2 (hv _ q5f).1;refine⟨?_,⟨show(s.extract l h).size<=b from by rw[ByteArray.size_extract];omega,rfl⟩,qo⟩;show OpOk P _ ty [(x,(WV.c (.one a)).exp),(y,(WV.c (.one i)).exp),(z,(WV.c (.one j)).exp)] [] (.c (.one (.val (.string (s.extract l h))))) [];rw[(zX hs).1,jl (jO hi).1,jl (jO hj).1];refine qk λac w H β hins _ _=>⟨.string (s.extract l h),⟨rfl,rfl⟩,λ_ _ _ _=>?_⟩
    have hx:=(hins _ q5f).1;have hy:=(hins (y,qb k (l:Int)) (by simp)).1;have hz:=(hins (z,qb k' (h:Int)) (by simp)).1;simp only at hx hy hz;have hr:=run_slice_string (P:=P) w t s k k' (l:Int) (h:Int) hu (q4P l) (by omega) (by omega);simp only[q4Q]at hr;simp only[execOp,hx,hy,hz,q60,q5Z,q64,run_sliceAt_string _ _ _ _ _ _ hu,hr,q63,q65]
   .exact trivial
  .exact trivial
 .rename_i o t x y yt a b
  split
  .rename_i m s n u hs hu
   have key: ∀(r:Value),r.oneC=true->(∀w,(binOp o t (.string s) (.string u)).run P w= .ok r w)->OpOk P (.binOp o t x y yt) ty [(x,(WV.c (.one a)).exp),(y,(WV.c (.one b)).exp)] [] (.c (.one (.val r))) []:=by
    intro r ho hr;rw[(zX hs).1,(zX hu).1];refine jG ho λw=>?_
    have he:(eqGuard o t x y (.string s) (.string u)).run P w= .ok () w:=by
     cases o<;>rfl
    simp only[q64,he,q63,hr]
   split
   .cases h0:Nat.ble (m+n) 4611686018427387904 with
    |false=>exact trivial
    |true=>
     have h0:=q5y h0;intro hv _ hvc kin hkk _;rw[qg hkk];have o1:=(zX hs).2 (hv _ q5f).1;have o2:=(zX hu).2 (hv (.c (.one b)) (by simp)).1;refine⟨key (.string (s++u)) rfl λw=>?_,⟨show(s++u).size<=m+n from by rw[ByteArray.size_append];omega,rfl⟩,qo⟩;rw[binOp_string_add];exact run_string_add_sum w s u (by omega)
   .intro hv _ hvc kin hkk _
    rw[qg hkk];refine⟨key (.bool (decide (ltB s u))) rfl λw=>?_,⟨trivial,rfl⟩,qo⟩;rw[binOp_string_lss];show Result.ok (Value.bool (Op.bytesLess s.toList u.toList)) w=_
    congr 2
    show Op.bytesLess s.toList u.toList= @decide (Op.bytesLess s.toList u.toList=true) _;rw[Bool.decide_eq_true]
   .intro hv _ hvc kin hkk _
    rw[qg hkk];refine⟨key (.bool (decide (s=u))) rfl λw=>?_,⟨trivial,rfl⟩,qo⟩;rw[binOp_string_eql,toList_inj];rfl
   .intro hv _ hvc kin hkk _
    rw[qg hkk];refine⟨key (.bool (decide (s≠u))) rfl λw=>?_,⟨trivial,rfl⟩,qo⟩;rw[binOp_string_neq,toList_inj,decide_not];rfl
   .exact trivial
  .exact trivial
 .exact trivial⟩
end
end
abbrev BA:=ByteArray
theorem MG{x y:BA}(h:j5 x=j5 y):x=y:=by rw[<-EN x,<-EN y,h]
theorem Il(x y:BA):j5 (x++y)=j5 x++j5 y:=by simp[j5]
theorem MI:j5 ⟨#[]⟩=[]:=rfl
theorem R8{x:BA}:x≠⟨#[]⟩↔j5 x≠[]:=⟨λh e=>h (MG e),λh e=>h (by rw[e];rfl)⟩
theorem Tc{s:BA}{i:Nat}(h:i<s.size):j5 (s.extract i (i+1))=[(j5 s)[i]'h]:=by
 have:(j5 s).length=s.size:=rfl;simp only[j5,ByteArray.data_extract,Array.toList_extract,List.extract];rw[show i+1-i=1 by omega];have h2:i<s.data.toList.length:=h;rw[List.take_one,List.head?_drop,q51 h2];rfl
theorem Td{s:BA}{i:Nat}(h:i<s.size):(bytB s i=43)↔(j5 s)[i]'h=43:=by
 have h2:i<s.data.toList.length:=h;unfold bytB;rw[q4X,q51 h2];show((j5 s)[i]'h).toNat=43↔_;constructor
 .intro e;exact UInt8.toNat_inj.1 e
 .intro e;rw[e];rfl
theorem H5(l:List Bs):qU (l.map obB)=l:=by
 unfold qU;rw[List.map_map]
 exact(List.map_congr_left λx _=>Im x).trans (List.map_id l)
theorem Mc(l:List BA):(qU l).map obB=l:=by
 unfold qU;rw[List.map_map]
 exact(List.map_congr_left λx _=>EN x).trans (List.map_id l)
theorem Y2{x y:BA}:ltB x y↔j5 x<j5 y:=by
 have h1:x.toList=j5 x:=ByteArray.toList_eq ..;have h2:y.toList=j5 y:=ByteArray.toList_eq ..;unfold ltB;rw[h1,h2,bytesLess_eq];exact decide_eq_true_iff
def qf(s:BA):List BA:=(prt (j5 s)).map obB
def ptN(s:BA):Nat->List BA×BA
 |0=>([],⟨#[]⟩)
 |i+1=>if i<s.size/\ ¬bytB s i=43 then((ptN s i).1,(ptN s i).2++s.extract i (i+1))else(if(ptN s i).2=⟨#[]⟩then(ptN s i).1 else(ptN s i).1++[(ptN s i).2],⟨#[]⟩)
def PtI(s:BA)(i:Nat)(o:List BA)(x:BA):Prop:=o=(ptN s i).1/\x=(ptN s i).2
theorem PtI.start(s:BA):PtI s 0 [] ⟨#[]⟩:=⟨rfl,rfl⟩
theorem PtI.byte{s:BA}{i:Nat}{o:List BA}{x:BA}(h:PtI s i o x)(h1:i<s.size)(h2: ¬bytB s i=43):PtI s (i+1) o (x++s.extract i (i+1)):=by
 unfold PtI;rw[ptN,if_pos ⟨h1,h2⟩,<-h.1,<-h.2];exact⟨rfl,rfl⟩
theorem PtI.word{s:BA}{i:Nat}{o:List BA}{x:BA}(h:PtI s i o x)(h1: ¬(i<s.size/\ ¬bytB s i=43))(h2: ¬x=⟨#[]⟩):PtI s (i+1) (o++[x]) ⟨#[]⟩:=by
 unfold PtI;rw[ptN,if_neg h1,<-h.1,<-h.2,if_neg h2];exact⟨rfl,rfl⟩
theorem PtI.none{s:BA}{i:Nat}{o:List BA}{x:BA}(h:PtI s i o x)(h1: ¬(i<s.size/\ ¬bytB s i=43))(h2:x=⟨#[]⟩):PtI s (i+1) o ⟨#[]⟩:=by
 unfold PtI;rw[ptN,if_neg h1,<-h.1,<-h.2,if_pos h2];exact⟨rfl,rfl⟩
theorem Ql(s:BA): ∀i,i<=s.size->qU (ptN s i).1++prt (j5 (ptN s i).2++(j5 s).drop i)=prt (j5 s)/\(43:UInt8)∉j5 (ptN s i).2
 |0,_=>⟨rfl,by simp[ptN,MI]⟩
 |i+1,h=>by
  obtain⟨h1,h2⟩:=Ql s i (by omega);have hi:i<s.size:=by omega
  have hd:(j5 s).drop i=(j5 s)[i]'hi::(j5 s).drop (i+1):=List.drop_eq_getElem_cons hi;rw[hd]at h1;unfold ptN;by_cases hb:bytB s i=43
  .have hb2:=(Td hi).1 hb
   rw[if_neg (λe=>e.2 hb)];rw[hb2]at h1
   have e:prt (j5 (ptN s i).2++43::(j5 s).drop (i+1))=(if j5 (ptN s i).2=[]then[]else[j5 (ptN s i).2])++prt ((j5 s).drop (i+1)):=by
    unfold prt;rw[Kf _ _ h2,List.filter_cons];by_cases h0:j5 (ptN s i).2=[]
    .rw[if_neg (by simp[h0]),if_pos h0];rfl
    .rw[if_pos (by simp[h0]),if_neg h0];rfl
   rw[e]at h1;refine⟨?_,by simp[MI]⟩;rw[<-h1];show qU (if(ptN s i).2=⟨#[]⟩then(ptN s i).1 else(ptN s i).1++[(ptN s i).2])++prt ([]++(j5 s).drop (i+1))=_;by_cases h0:(ptN s i).2=⟨#[]⟩
   .rw[if_pos h0,if_pos (by rw[h0];rfl)];rfl
   .rw[if_neg h0,if_neg (R8.1 h0),<-q4R]
    simp[qU]
  .rw[if_pos ⟨hi,hb⟩]
   have hb2:=λe=>hb ((Td hi).2 e)
   refine⟨?_,?_⟩
   .rw[<-h1]
    show qU (ptN s i).1++prt (j5 ((ptN s i).2++s.extract i (i+1))++(j5 s).drop (i+1))=_;rw[Il,Tc hi,q4R];rfl
   .show(43:UInt8)∉j5 ((ptN s i).2++s.extract i (i+1))
    rw[Il,Tc hi,q5c]
    rintro(h|h)
    .exact h2 h
    .rw[q5j]at h;exact hb2 h.symm
theorem q06(s:BA):(ptN s (s.size+1)).1=qf s:=by
 obtain⟨h1,h2⟩:=Ql s s.size (q5B _);have hd:(j5 s).drop s.size=[]:=List.drop_eq_nil_of_le (q5B _);rw[hd,List.append_nil]at h1
 have e:prt (j5 (ptN s s.size).2)=if j5 (ptN s s.size).2=[]then[]else[j5 (ptN s s.size).2]:=by
  unfold prt;rw[HT _ h2,List.filter_cons];by_cases h0:j5 (ptN s s.size).2=[]
  .rw[if_neg (by simp[h0]),if_pos h0];rfl
  .rw[if_pos (by simp[h0]),if_neg h0];rfl
 rw[e]at h1;unfold qf;rw[<-h1,ptN,if_neg (by omega)];show(if(ptN s s.size).2=⟨#[]⟩then(ptN s s.size).1 else(ptN s s.size).1++[(ptN s s.size).2])=_;by_cases h0:(ptN s s.size).2=⟨#[]⟩
 .rw[if_pos h0,if_pos (by rw[h0];rfl),List.append_nil,Mc]
 .rw[if_neg h0,if_neg (R8.1 h0),List.map_append,Mc,q5b,EN];rfl
theorem PtI.fin{s:BA}{i:Nat}{o:List BA}{x:BA}(h:PtI s i o x)(h1: ¬i<=s.size)(h2:i<=s.size+1):o=qf s:=by
 rw[h.1,show i=s.size+1 by omega,q06]
theorem Kh(s:BA): ∀i,(ptN s i).1.length<=i/\(ptN s i).2.size<=i
 |0=>⟨q5B _,q5B _⟩
 |i+1=>by
  obtain⟨h1,h2⟩:=Kh s i;unfold ptN;by_cases hc:i<s.size/\ ¬bytB s i=43
  .rw[if_pos hc]
   refine⟨by show(ptN s i).1.length<=_;omega,?_⟩;show((ptN s i).2++s.extract i (i+1)).size<=_;rw[ByteArray.size_append,ByteArray.size_extract];omega
  .rw[if_neg hc]
   refine⟨?_,q5X _⟩;show(if(ptN s i).2=⟨#[]⟩then(ptN s i).1 else(ptN s i).1++[(ptN s i).2]).length<=_;split
   .omega
   .rw[q55];simp;omega
theorem PtI.len{s:BA}{i:Nat}{o:List BA}{x:BA}(h:PtI s i o x):o.length<=i:=by rw[h.1];exact(Kh s i).1
theorem PtI.wrd{s:BA}{i:Nat}{o:List BA}{x:BA}(h:PtI s i o x):x.size<=i:=by rw[h.2];exact(Kh s i).2
def wtL(l:List Bs):Nat:=(l.map λx=>x.length+1).sum
theorem vR(x:Bs)(l:List Bs):wtL (x::l)=x.length+1+wtL l:=by simp[wtL]
theorem E4(a b:List Bs):wtL (a++b)=wtL a+wtL b:=by simp[wtL]
theorem OU: ∀l:List Bs,l.length<=wtL l
 |[]=>q5B _
 |x::l=>by rw[vR,q56];have:=OU l;omega
theorem OV: ∀{l:List Bs}{x:Bs},x∈l->x.length+1<=wtL l
 |[],x,h=>by cases h
 |y::l,x,h=>by
  rw[vR];rcases q5d.1 h with rfl|h
  .omega
  .have:=OV h;omega
theorem VT: ∀s:Bs,wtL (pcs s)=s.length+1
 |[]=>rfl
 |b::l=>by
  have ih:=VT l;unfold pcs;split
  .rw[vR,ih];simp;omega
  .split
   .rename_i h;rw[h]at ih;simp[wtL]at ih
   .rename_i p r h
    rw[h,vR]at ih;rw[vR];simp;omega
theorem LF(p:Bs->Bool): ∀l:List Bs,wtL (l.filter p)<=wtL l
 |[]=>q5B _
 |x::l=>by
  have:=LF p l;rw[List.filter_cons];split
  .rw[vR,vR];omega
  .rw[vR];omega
theorem Jy(s:Bs):wtL (prt s)<=s.length+1:=q5C (LF _ _) (Nat.le_of_eq (VT s))
theorem TW: ∀l:List Bs,(jn l).length<=wtL l
 |[]=>q5B _
 |[x]=>by rw[vR];show x.length<=_;omega
 |x::y::r=>by
  have:=TW (y::r);rw[vR];show(x++43::jn (y::r)).length<=_;rw[q55,q56];omega
def psB(x:BA)(o:List BA):Nat->Nat
 |0=>0
 |r+1=>if ltB x (o.getD r .empty)then psB x o r else r+1
def insS(x:BA)(o:List BA):List BA:=
 if 0<psB x o o.length/\o.getD (psB x o o.length-1) .empty=x then o else o.take (psB x o o.length)++x::o.drop (psB x o o.length)
def soN(l:List BA):Nat->List BA
 |0=>[]
 |i+1=>insS (l.getD i .empty) (soN l i)
def PsI(x:BA)(o:List BA)(r:Nat):Prop:=psB x o r=psB x o o.length/\r<=o.length
theorem PsI.start(x:BA)(o:List BA):PsI x o o.length:=⟨rfl,q5B _⟩
theorem PsI.step{x:BA}{o:List BA}{r:Nat}(h:PsI x o r)(h0:0<r)(hc:ltB x (o.getD (r-1) .empty)):PsI x o (r-1):=by
 refine⟨?_,by have:=h.2;omega⟩;rw[<-h.1];obtain⟨r,rfl⟩: ∃s,r=s+1:=⟨r-1,by omega⟩;rw[show r+1-1=r by omega]at hc⊢;rw[psB,if_pos hc]
theorem PsI.pos{x:BA}{o:List BA}{r:Nat}(h:PsI x o r)(hc: ¬0<r\/ ¬ltB x (o.getD (r-1) .empty)):psB x o o.length=r:=by
 rw[<-h.1];rcases q5x r with e|e
 .subst e;rfl
 .rcases hc with hc|hc
  .exact absurd e hc
  .obtain⟨r,rfl⟩: ∃s,r=s+1:=⟨r-1,by omega⟩
   rw[show r+1-1=r by omega]at hc;rw[psB,if_neg hc]
theorem Mf(x:BA)(o:List BA): ∀r,psB x o r<=r
 |0=>q5B _
 |r+1=>by
  unfold psB;split
  .exact Nat.le_succ_of_le (Mf x o r)
  .exact q5B _
theorem Yi(x:BA)(o:List BA): ∀r j,psB x o r<=j->j<r->ltB x (o.getD j .empty)
 |0,j,_,h=>absurd h (Nat.not_lt_zero j)
 |r+1,j,h1,h2=>by
  unfold psB at h1;split at h1
  .rename_i hc
   by_cases e:j=r
   .rw[e];exact hc
   .exact Yi x o r j h1 (by omega)
  .omega
theorem Yj(x:BA)(o:List BA): ∀r,0<psB x o r-> ¬ltB x (o.getD (psB x o r-1) .empty)
 |0,h=>absurd h (by simp[psB])
 |r+1,h=>by
  unfold psB at h⊢;split
  .rename_i hc;rw[if_pos hc]at h;exact Yj x o r h
  .rename_i hc;rw[show r+1-1=r by omega];exact hc
theorem IF{o:List BA}{j:Nat}(h:j<o.length):o.getD j .empty=o[j]:=by rw[q4X,q51 h];rfl
theorem Zq{x z:BA}{o:List BA}:z∈insS x o↔z=x\/z∈o:=by
 unfold insS;split
 .rename_i h
  have hl:=Mf x o o.length;have h3:psB x o o.length-1<o.length:=by omega
  have hx:x∈o:=by
   have:=h.2;rw[IF h3]at this
   rw[<-this];exact List.getElem_mem h3
  exact⟨.inr,λh=>h.elim (λe=>e▸hx) id⟩
 .rw[q5c,q5d]
  constructor
  .rintro(h|h|h)
   .exact .inr (q5i h)
   .exact .inl h
   .exact .inr (List.mem_of_mem_drop h)
  .rintro(h|h)
   .exact .inr (.inl h)
   .rw[<-List.take_append_drop (psB x o o.length) o,q5c]at h
    exact h.imp id .inr
theorem Zr{x:BA}{o:List BA}(h:Srt (qU o)):Srt (qU (insS x o)):=by
 unfold insS;split
 .exact h
 .rename_i hn
  have hle:=Mf x o o.length;have hhi:=Yi x o o.length;have hlo:=Yj x o o.length;generalize psB x o o.length=r at*;have hp:o.Pairwise λa b=>j5 a<j5 b:=List.pairwise_map.1 h
  show Srt ((o.take r++x::o.drop r).map j5);unfold Srt;rw[List.pairwise_map,List.pairwise_append,List.pairwise_cons];have hg:=List.pairwise_iff_getElem.1 hp
  have hlt: ∀y∈o.take r,j5 y<j5 x:=by
   intro y hy;obtain⟨j,hj,rfl⟩:=List.mem_iff_getElem.1 hy;rw[q5a]at hj;rw[List.getElem_take];have hr1:r-1<o.length:=by omega
   have h1:=hlo (by omega);rw[IF hr1,Y2]at h1;have h2:j5 o[r-1]<j5 x:=Ds (U8 h1) λe=>hn ⟨by omega,by rw[IF hr1];exact MG e⟩
   by_cases e:j=r-1
   .subst e;exact h2
   .exact lt_tr (hg j (r-1) (by omega) hr1 (by omega)) h2
  have hgt: ∀y∈o.drop r,j5 x<j5 y:=by
   intro y hy;obtain⟨j,hj,rfl⟩:=List.mem_iff_getElem.1 hy;rw[q57]at hj;rw[List.getElem_drop];have:=hhi (r+j) (by omega) (by omega)
   rwa [IF (by omega),Y2]at this
  refine⟨hp.sublist (List.take_sublist _ _),⟨hgt,hp.sublist (List.drop_sublist _ _)⟩,?_⟩;intro a ha b hb;rcases q5d.1 hb with rfl|hb
  .exact hlt a ha
  .exact lt_tr (hlt a ha) (hgt b hb)
theorem q1w(x:BA)(o:List BA):wtL (qU (insS x o))<=wtL (qU o)+(j5 x).length+1:=by
 unfold insS;split
 .omega
 .have e:wtL (qU (o.take (psB x o o.length)))+wtL (qU (o.drop (psB x o o.length)))=wtL (qU o):=by
   rw[<-E4];unfold qU;rw[<-List.map_append,List.take_append_drop]
  have e2:wtL (qU (o.take (psB x o o.length)++x::o.drop (psB x o o.length)))=wtL (qU (o.take (psB x o o.length)))+((j5 x).length+1+wtL (qU (o.drop (psB x o o.length)))):=by
   rw[<-vR,<-E4];unfold qU;rw[List.map_append,q5b]
  omega
theorem V4(l:List BA): ∀i,Srt (qU (soN l i))
 |0=>List.Pairwise.nil
 |i+1=>Zr (V4 l i)
theorem BI{l:List BA}{i:Nat}(h:i<l.length):l.take (i+1)=l.take i++[l.getD i .empty]:=by
 rw[IF h];exact q5p h
theorem Ol(l:List BA): ∀i,i<=l.length-> ∀z,z∈soN l i↔z∈l.take i
 |0,_,z=>by simp[soN]
 |i+1,h,z=>by
  rw[BI h,q5c,q5j];show z∈insS _ _↔_;rw[Zq,Ol l i (by omega) z];exact Or.comm
theorem Yp(l:List BA): ∀i,i<=l.length->wtL (qU (soN l i))<=wtL (qU (l.take i))
 |0,_=>Nat.le_of_eq rfl
 |i+1,h=>by
  have h1:=Yp l i (by omega);have h2:=q1w (l.getD i .empty) (soN l i);rw[BI h]
  have e:wtL (qU (l.take i++[l.getD i .empty]))=wtL (qU (l.take i))+((j5 (l.getD i .empty)).length+1):=by
   unfold qU;rw[List.map_append,E4];simp[wtL]
  rw[e];show wtL (qU (insS _ _))<=_;omega
theorem V2(l:List BA):qU (soN l l.length)=can (qU l):=by
 refine(MM (V4 l l.length) λx=>?_).symm;constructor
 .intro h
  obtain⟨y,hy,rfl⟩:=List.mem_map.1 h;exact List.mem_map.2 ⟨y,(Ol l l.length (q5B _) y).2 (by rwa [q5n]),rfl⟩
 .intro h
  obtain⟨y,hy,rfl⟩:=List.mem_map.1 h;have:=(Ol l l.length (q5B _) y).1 hy;rw[q5n]at this;exact List.mem_map.2 ⟨y,this,rfl⟩
theorem q16(l:List BA):wtL (can (qU l))<=wtL (qU l):=by
 rw[<-V2];have:=Yp l l.length (q5B _)
 rwa [q5n]at this
theorem QJ{l o:List BA}{i r:Nat}(h:o=soN l i)(hp:psB (l.getD i .empty) o o.length=r)(h0:0<r)(he:o.getD (r-1) .empty=l.getD i .empty):o=soN l (i+1):=by
 show o=insS (l.getD i .empty) (soN l i);rw[<-h];unfold insS;rw[if_pos (by rw[hp];exact⟨h0,he⟩)]
theorem Jr{l o:List BA}{i r:Nat}{e:BA}(h:o=soN l i)(hp:psB (l.getD i .empty) o o.length=r)(hr:r<=o.length)(h0: ¬0<r\/ ¬o.getD (r-1) .empty=l.getD i .empty):
  (cpyL (o++[e]) (r+1) r (min ((o.length+[e].length) -r) ((o.length+[e].length) -(r+1)))).set r (l.getD i .empty)=soN l (i+1):=by
 show _=insS (l.getD i .empty) (soN l i);rw[<-h];unfold insS;rw[if_neg (by rw[hp];intro e;rcases h0 with h0|h0;exact h0 e.1;exact h0 e.2),hp]
 unfold cpyL;rw[show min ((o.length+[e].length) -r) ((o.length+[e].length) -(r+1))=o.length-r by simp;omega]
 have e1:(o++[e]).take (r+1)=o.take r++[(o++[e])[r]'(by simp;omega)]:=by
  rw[q5p (by simp;omega),q5m hr]
 have e2:((o++[e]).drop r).take (o.length-r)=o.drop r:=by
  rw[List.drop_append_of_le_length hr,q5m (by simp)];exact q5o (by simp)
 have e3:(o++[e]).drop (r+1+(o.length-r))=[]:=q4T (by simp;omega);rw[e1,e2,e3,List.append_nil,q4R];have hlen:(o.take r).length=r:=by rw[q5a];omega
 rw[List.set_append_right _ _ (by omega),hlen,Nat.sub_self];rfl
theorem XW{o:List BA}{e:BA}{r:Nat}(hr:r<=o.length):(cpyL (o++[e]) (r+1) r (min ((o.length+[e].length) -r) ((o.length+[e].length) -(r+1)))).length=o.length+[e].length:=by
 unfold cpyL;simp only[q55,q5a,q57,q56,q59];omega
theorem LX{o:List BA}{e:BA}{r:Nat}(hr:r<=o.length):r<(cpyL (o++[e]) (r+1) r (min ((o.length+[e].length) -r) ((o.length+[e].length) -(r+1)))).length:=by
 rw[XW hr];exact Nat.lt_succ_of_le hr
theorem LY{o:List BA}{e:BA}{r i:Nat}{x:BA}(hr:r<=o.length):o.length+[e].length=((cpyL (o++[e]) (r+1) r (min ((o.length+[e].length) -r) ((o.length+[e].length) -(r+1)))).set i x).length:=by
 rw[List.length_set,XW hr]
theorem q2Z{l o:List BA}{i:Nat}(h:o=soN l i)(hi:i<=l.length):o.length<=i:=by
 subst h
 induction i with
 |zero=>exact q5B _
 |succ i ih=>
  have:=ih (by omega);show(insS _ _).length<=_;unfold insS;split
  .omega
  .rw[q55,q56,q5a,q57]
   have:=Mf (l.getD i .empty) (soN l i) (soN l i).length;omega
def jnN(l:List BA):Nat->BA
 |0=>⟨#[]⟩
 |i+1=>(if 0<i then jnN l i++jZ else jnN l i)++l.getD i .empty
theorem PU: ∀(l:List Bs)(x:Bs),jn (l++[x])=(if 0<l.length then jn l++[43]else jn l)++x
 |[],x=>rfl
 |[y],x=>by show y++43::x=(y++[43])++x;simp
 |y::z::r,x=>by
  have ih:=PU (z::r) x;rw[if_pos (by simp)]at ih⊢;show y++43::jn ((z::r)++[x])=((y++43::jn (z::r))++[43])++x;rw[ih];simp
theorem Nn(l:List BA): ∀i,i<=l.length->j5 (jnN l i)=jn (qU (l.take i))
 |0,_=>rfl
 |i+1,h=>by
  have ih:=Nn l i (by omega);have hl:(qU (l.take i)).length=i:=by rw[E6,q5a];omega
  have e:qU (l.take (i+1))=qU (l.take i)++[j5 (l.getD i .empty)]:=by rw[BI h];simp[qU]
  rw[e,PU,hl,<-ih];show j5 ((if 0<i then jnN l i++jZ else jnN l i)++l.getD i .empty)=_;rw[Il];split
  .rw[Il];rfl
  .rfl
theorem q0K(l:List BA)(i:Nat):wtL (qU (l.take i))<=wtL (qU l):=by
 have e:wtL (qU (l.take i))+wtL (qU (l.drop i))=wtL (qU l):=by rw[<-E4];unfold qU;rw[<-List.map_append,List.take_append_drop]
 omega
theorem q4a{l:List BA}{i:Nat}{o:BA}(h:o=jnN l i)(h0: ¬0<i):o++l.getD i .empty=jnN l (i+1):=by rw[jnN,if_neg h0,h]
theorem q4b{l:List BA}{i:Nat}{o:BA}(h:o=jnN l i)(h0:0<i):(o++jZ)++l.getD i .empty=jnN l (i+1):=by rw[jnN,if_pos h0,h]
def jv(a b:BA):List BA:=(can (prt (j5 a)++prt (j5 b))).map obB
def mgB(a b:BA):BA:=obB (mrg (j5 a) (j5 b))
theorem Af(a:BA):qU (qf a)=prt (j5 a):=H5 _
theorem BM(a b:List BA):qU (a++b)=qU a++qU b:=by unfold qU;exact List.map_append
theorem LT(a b:BA):wtL (qU (jv a b))<=a.size+b.size+2:=by
 unfold jv;rw[H5,<-Af a,<-Af b,<-BM];have h:=q16 (qf a++qf b);rw[BM,Af,Af,E4]at h;rw[BM,Af,Af];have h1:=Jy (j5 a);have h2:=Jy (j5 b)
 rw[Fg]at h1 h2;omega
theorem Tj(a b:BA):(jv a b).length<=a.size+b.size+2:=by
 have h1:=LT a b;have h2:=OU (qU (jv a b));rw[E6]at h2;omega
theorem q3Y{a b x:BA}(h:x∈jv a b):x.size<=a.size+b.size+1:=by
 have h1:=LT a b;have h3:j5 x∈qU (jv a b):=List.mem_map.2 ⟨x,h,rfl⟩;have h2:=OV h3;rw[Fg]at h2;omega
theorem q40(a b:BA):soN (qf a++qf b) (qf a++qf b).length=jv a b:=by
 unfold jv;rw[<-Af a,<-Af b,<-BM,<-V2,Mc]
theorem q3Z(a b:BA):jnN (jv a b) (jv a b).length=mgB a b:=by
 apply MG;rw[Nn _ _ (q5B _),q5n];unfold jv mgB mrg;rw[H5,Im]
theorem DN(a b:BA):(mgB a b).size<=a.size+b.size+1:=by
 have e:(mgB a b).size=(jn (can (prt (j5 a)++prt (j5 b)))).length:=Kd _;have h:=LT a b;unfold jv at h;rw[H5]at h
 rw[e];generalize can (prt (j5 a)++prt (j5 b))=l at h
 have h2:(jn l).length<=wtL l-1:=by
  clear h
  induction l with
  |nil=>exact q5B _
  |cons x l ih=>
   cases l with
   |nil=>rw[vR];show x.length<=_;omega
   |cons y r=>
    rw[vR];show(x++43::jn (y::r)).length<=_;rw[q55,q56];have:1<=wtL (y::r):=by rw[vR];omega
    omega
 omega
theorem HU(a:BA):(qf a).length<=a.size+1:=by
 have h1:=Jy (j5 a);have h2:=OU (prt (j5 a));rw[Fg]at h1;unfold qf;rw[q58];omega
theorem q05{a x:BA}(h:x∈qf a):x.size<=a.size:=by
 obtain⟨y,hy,rfl⟩:=List.mem_map.1 h;have h1:=Jy (j5 a);have h2:=OV hy;rw[Fg]at h1;rw[Kd];omega
theorem UC{a:BA}{n:Nat}(h:a.size<=n):Bnd (.sl .str) (.s (n+1) (.n n)) (qf a):=⟨by have:=HU a;show(qf a).length<=n+1;omega,λx hx=>q5C (q05 hx) h⟩
theorem q2Y{a b:BA}{o:List BA}{i:Nat}(h:o=soN (qf a++qf b) i)(h1: ¬i<(qf a++qf b).length)(h2:i<=(qf a++qf b).length):o=jv a b:=by
 rw[h,show i=(qf a++qf b).length by omega,q40]
theorem cn_b{a b:BA}(h:a.size+b.size+1<=2000):Bnd (.sl .str) (.s 4002 (.n 2001)) (jv a b):=
 ⟨by have:=Tj a b;show(jv a b).length<=4002;omega,λx hx=>by have:=q3Y hx;show x.size<=2001;omega⟩
theorem q1B{a b o:BA}{j:Nat}(h:o=jnN (jv a b) j)(h1: ¬j<(jv a b).length)(h2:j<=(jv a b).length):o=mgB a b:=by
 rw[h,show j=(jv a b).length by omega,q3Z]
theorem q4d{a b o:BA}{j:Nat}(h:o=jnN (jv a b) j)(h2:j<(jv a b).length):o.size+1+((jv a b).getD j .empty).size<=a.size+b.size+2:=by
 have h1:=q0K (jv a b) (j+1);have h3:=LT a b;have e1:(jnN (jv a b) j).size=(j5 (jnN (jv a b) j)).length:=rfl;have h4:=TW (qU ((jv a b).take j));rw[<-Nn _ _ (q5z h2),<-e1,<-h]at h4;rw[BI h2]at h1
 have e:wtL (qU ((jv a b).take j++[(jv a b).getD j .empty]))=wtL (qU ((jv a b).take j))+((j5 ((jv a b).getD j .empty)).length+1):=by
  rw[BM,E4];simp[wtL,qU]
 rw[e,Fg]at h1;omega
def flN(l:List BA):Nat->List BA
 |0=>[]
 |i+1=>if l.getD i .empty=⟨#[]⟩then flN l i else flN l i++[l.getD i .empty]
theorem fl_y{l o:List BA}{i:Nat}(h:o=flN l i)(hc: ¬l.getD i .empty=⟨#[]⟩):o++[l.getD i .empty]=flN l (i+1):=by rw[flN,if_neg hc,h]
theorem fl_n{l o:List BA}{i:Nat}(h:o=flN l i)(hc:l.getD i .empty=⟨#[]⟩):o=flN l (i+1):=by rw[flN,if_pos hc,h]
theorem Tz(l:List BA): ∀i,(flN l i).length<=i
 |0=>q5B _
 |i+1=>by
  have:=Tz l i;unfold flN;split
  .omega
  .rw[q55];simp;omega
theorem XY(l:List BA): ∀i,i<=l.length->qU (flN l i)=(qU (l.take i)).filter λx=>decide (x≠[])
 |0,_=>rfl
 |i+1,h=>by
  have ih:=XY l i (by omega);have e:qU (l.take (i+1))=qU (l.take i)++[j5 (l.getD i .empty)]:=by rw[BI h];simp[qU]
  rw[e,List.filter_append,<-ih];show qU (if l.getD i .empty=⟨#[]⟩then flN l i else flN l i++[l.getD i .empty])=_;split
  .rename_i h0;rw[h0,MI];exact(List.append_nil _).symm
  .rename_i h0
   have:j5 (l.getD i .empty)≠[]:=R8.1 h0;rw[List.filter_cons,if_pos (by simpa using this),BM];rfl
def flB(a b:BA):List BA:=qf a++qf b
theorem q1i(a b:BA):flN (qY a++qY b) (qY a++qY b).length=flB a b:=by
 have h:=XY (qY a++qY b) _ (q5B _);rw[q5n,BM,V7,V7,List.filter_append]at h;rw[<-Mc (flN _ _),h,List.map_append];rfl
theorem q3T(a b:BA):cmB (srB (flB a b))=jv a b:=by
 unfold cmB srB jv flB;rw[H5,BM,Af,Af];rfl
theorem Wb(l:List BA):(cmF l).take (cmB l).length=cmB l:=by
 unfold cmF cmB;rw[q58,List.map_append,q5m (by rw[q58];exact q5B _)];exact q5o (by rw[q58];exact q5B _)
theorem q4c(a b:BA):jnB (jv a b)=mgB a b:=by
 unfold jnB jv mgB mrg;rw[H5,Zu]
theorem Ug{a b:BA}{o:List BA}{i:Nat}(h:o=flN (qY a++qY b) i)(h1: ¬i<(qY a).length+(qY b).length)(h2:i<=(qY a++qY b).length):jnB ((cmF (srB o)).take (cmB (srB o)).length)=mgB a b:=by
 have e:o=flB a b:=by
  rw[h,show i=(qY a++qY b).length by rw[q55]at h2⊢;omega,q1i]
 rw[Wb,e,q3T,q4c]
theorem cm_F(l:List BA):(cmB l).length<=(cmF l).length:=by rw[Po];exact In l
theorem ZN(a b:BA):mgB a b=mgB b a:=by unfold mgB;rw[WX]
theorem WR(a b c:BA):mgB (mgB a b) c=mgB a (mgB b c):=by
 unfold mgB;rw[Im,Im,Uj]
theorem ZO(a b:BA):mgB (mgB a b) (mgB a b)=mgB a b:=by
 unfold mgB;rw[Im,WY]
def szT(p:BA×BA×BA):Prop:=p.1.size<=300/\p.2.1.size<=300/\p.2.2.size<=300
theorem q0D{p q r:BA×BA×BA}(hp:szT p)(hq:szT q)(hr:szT r): ∀i,szT ([p,q,r].getD i (.empty,.empty,.empty))
 |0=>hp
 |1=>hq
 |2=>hr
 |i+3=>⟨q5X _,q5X _,q5X _⟩
abbrev W6:FI:=⟨8,[.str,.str],[(.n 2000),(.n 2000)],λz=>(λ(a:ByteArray)(b_:ByteArray)=>[a.size+b_.size+1<=2000]) z.1 z.2,λb z=>(λ(a:ByteArray)(b_:ByteArray)=> .c (.one (.dt .str (.n 2000) (mgB a b_)))) z.1 z.2⟩
theorem MB:W6.OK Tryz.prog:=mkF hmix 30 Tryz.func8 rfl rfl (by decide) [(14,.o WZ),(15,.s ZU),(16,.c ZP),(17,.s RS)] (λ(a:ByteArray)(b_:ByteArray) b hx hp=>qx (q5C (DN a b_) (hp _ q5f)) rfl) (λ(a:ByteArray)(b_:ByteArray) hx hp=>by
 have hp0:a.size+b_.size+1<=2000:=hp _ (q5f)
 refine⟨.pre 1002004 (.frz 11 true [11]) (.loop [.s 14 (.nat .i64) (.n 8195),.g 5 90001 .str (.n 4096) 8194] (λ((i,o):Nat×List ByteArray)=>o=flN (qY a++qY b_) i/\i<=(qY a++qY b_).length) (λ((i,o):Nat×List ByteArray)=>(qY a++qY b_).length-i) (λ((i,o):Nat×List ByteArray)=> .cond (.h 5 1 (.ext extS) (.cond (.h 6 2 (.mk (.im .str (.n 4096))) (.nil)) (.nil))) (.pre 1009002 (.frz 90001 false [28]) (.nil)))),kcast (by kernel_rfl) (I (rfl:(⟨#[43]⟩:ByteArray)=jZ) (I (?_:a.size<=4096) (I (rfl:(⟨#[43]⟩:ByteArray)=jZ) (I (?_:b_.size<=4096) (I (?_:(qY b_).length=(qY b_).length) (I (?_:(qY a).length=(qY a).length) (I (rfl:0=([]:List ByteArray).length) (I (⟨rfl,q5X _⟩:([]:List ByteArray)=flN (qY a++qY b_) 0/\0<=(qY a++qY b_).length) (λ(i:Nat)(o:List ByteArray)(hb1:HB [.s 14 (.nat .i64) (.n 8195),.g 5 90001 .str (.n 4096) 8194] (i,o))(hI:o=flN (qY a++qY b_) i/\i<=(qY a++qY b_).length)=>have hv6:=(show i<=8195 from hb1.1);have hv7:=(show o.length<=8194 from hb1.2.1);have hsa:=(SB a);have hsb:=(SB b_);have hll:=(show(qY a++qY b_).length=(qY a).length+(qY b_).length from q55);have hol:=(show o.length<=i from hI.1▸Tz _ _);have hIi:=hI.2;Sp (i<((qY a).length)+(qY b_).length) (λh2=>I (?_:i<((qY a).length)+(qY b_).length) (I (by(try simp only[q55,q56,q59])<;>omega:i<((qY a)++(qY b_)).length) (Sp ((((qY a)++(qY b_)).getD i ByteArray.empty)≠(⟨#[]⟩:ByteArray)) (λh3=>I (?_:o.length=o.length) (I (show(i+1)<=8195 by omega:Bnd (.nat .i64) (.n 8195) (i+1)) (I (by(try simp only[q55,q56,q59])<;>omega:o.length+[((qY a)++(qY b_)).getD i ByteArray.empty].length=(o++[((qY a)++(qY b_)).getD i ByteArray.empty]).length) (I (by(try simp only[q55,q56,q59])<;>omega:o.length+[((qY a)++(qY b_)).getD i ByteArray.empty].length<=8194) (q4J (⟨fl_y hI.1 h3,by omega⟩:(o++[((qY a)++(qY b_)).getD i ByteArray.empty])=flN (qY a++qY b_) (i+1)/\(i+1)<=(qY a++qY b_).length) (?_:(qY a++qY b_).length-(i+1)<(qY a++qY b_).length-i)))))) (λh4=>I (show(i+1)<=8195 by omega:Bnd (.nat .i64) (.n 8195) (i+1)) (I (?_:o.length=o.length) (q4J (⟨fl_n hI.1 (Decidable.of_not_not h4),by omega⟩:o=flN (qY a++qY b_) (i+1)/\(i+1)<=(qY a++qY b_).length) (?_:(qY a++qY b_).length-(i+1)<(qY a++qY b_).length-i))))))) (λh5=>I (Eq.refl o.length) (I ((Va _).symm:o.length=(srB o).length) (I (cm_F _:(cmB (srB o)).length<=(cmF (srB o)).length) (I (rfl:(⟨#[43]⟩:ByteArray)=jZ) (I (by rw[Ug hI.1 (by assumption) hI.2];have:=DN a b_;omega:(jnB ((cmF (srB o)).take ((cmB (srB o)).length))).size<=1048576) ((Ug hI.1 h5 hI.2:jnB ((cmF (srB o)).take ((cmB (srB o)).length))=mgB a b_))))))))))))))))⟩<;>omega)
abbrev W5:Ctr Tryz.prog:=FI.c MB
abbrev WT:FO:=⟨18,[.str],[(.n 2000)],λz=>(λ(s:ByteArray)=>[s.size<=2000]) z,λk b z=>(λ(s:ByteArray)=> .c (.one (.gs k ((qf s).length) 1 (2001)))) z,λb z=>(λ(s:ByteArray)=> .gro .str (.n 2000) (qf s)) z⟩
theorem WU:WT.OK Tryz.prog:=mkO hmix 36 90001 Tryz.func18 rfl rfl (by decide) [] (λ_=>rfl) (λ_ _ _=>rfl) (λ_ _=>rfl) (λ_ _ _=>⟨rfl,rfl⟩) (λ(s:ByteArray) k b hx hp=>⟨qx (show(qf s).length<=2001 from(UC (hp _ q5f)).1) rfl,(UC (hp _ q5f)).2⟩) (λ(s:ByteArray) hx hp=>by
 have hp0:s.size<=2000:=hp _ (q5f)
 refine bodyO.g (.loop [.s 5 (.nat .i64) (.n 2001),.g 3 90001 .str (.n 2000) 2001,.s 4 .str (.n 2000)] (λ((i,o,w_):Nat×List ByteArray×ByteArray)=>PtI s i o w_/\i<=s.size+1) (λ((i,o,w_):Nat×List ByteArray×ByteArray)=>s.size+1-i) (λ((i,o,w_):Nat×List ByteArray×ByteArray)=> .h 4 2 (.ext extS) (.cond (.h 6 2 (.ext extS) (.cond (.h 6 7 (.ext extS) (.cond (.h 7 5 (.ext extS) (.h 7 6 (.ext extS) (.nil))) (.h 8 1 (.ext extS) (.cond (.h 9 2 (.mk (.im .str (.n 2000))) (.nil)) (.nil))))) (.h 8 1 (.ext extS) (.cond (.h 9 2 (.mk (.im .str (.n 2000))) (.nil)) (.nil))))) (.nil)))) (kcast (by kernel_rfl) (I (rfl:0=([]:List ByteArray).length) (I (⟨PtI.start s,q5X _⟩:PtI s 0 ([]:List ByteArray) (⟨#[]⟩:ByteArray)/\0<=s.size+1) (λ(i:Nat)(o:List ByteArray)(w_:ByteArray)(hb1:HB [.s 5 (.nat .i64) (.n 2001),.g 3 90001 .str (.n 2000) 2001,.s 4 .str (.n 2000)] (i,o,w_))(hI:PtI s i o w_/\i<=s.size+1)=>have hv12:=(show i<=2001 from hb1.1);have hv13:=(show o.length<=2001 from hb1.2.1.1);have hIi:=hI.2;have hol:=(show o.length<=i from hI.1.len);have hwl:=(show w_.size<=i from hI.1.wrd);Sp (i<=s.size) (λh2=>Sp (i<s.size) (λh3=>I (?_:i<s.size) (Sp (bytB s i≠43) (λh4=>I (?_:i<=i+1) (I (?_:i+1<=s.size) (I (show(i+1)<=2001 by omega:Bnd (.nat .i64) (.n 2001) (i+1)) (I (?_:o.length=o.length) (I (show ByteArray.size (w_++(s.extract i (i+1)))<=2000 by(try simp only[ByteArray.size_append,ByteArray.size_extract])<;>omega:Bnd .str (.n 2000) (w_++(s.extract i (i+1)))) (q4J (⟨hI.1.byte h3 h4,by omega⟩:PtI s (i+1) o (w_++(s.extract i (i+1)))/\(i+1)<=s.size+1) (?_:s.size+1-(i+1)<s.size+1-i))))))) (λh5=>Sp (w_≠(⟨#[]⟩:ByteArray)) (λh6=>I (?_:o.length=o.length) (I (show(i+1)<=2001 by omega:Bnd (.nat .i64) (.n 2001) (i+1)) (I (by(try simp only[q55,q56,q59])<;>omega:o.length+[w_].length=(o++[w_]).length) (I (by(try simp only[q55,q56,q59])<;>omega:o.length+[w_].length<=2001) (q4J (⟨hI.1.word (λe=>h5 e.2) h6,by omega⟩:PtI s (i+1) (o++[w_]) (⟨#[]⟩:ByteArray)/\(i+1)<=s.size+1) (?_:s.size+1-(i+1)<s.size+1-i)))))) (λh7=>I (show(i+1)<=2001 by omega:Bnd (.nat .i64) (.n 2001) (i+1)) (I (?_:o.length=o.length) (q4J (⟨hI.1.none (λe=>h5 e.2) (Decidable.of_not_not h7),by omega⟩:PtI s (i+1) o (⟨#[]⟩:ByteArray)/\(i+1)<=s.size+1) (?_:s.size+1-(i+1)<s.size+1-i))))))) (λh8=>Sp (w_≠(⟨#[]⟩:ByteArray)) (λh9=>I (?_:o.length=o.length) (I (show(i+1)<=2001 by omega:Bnd (.nat .i64) (.n 2001) (i+1)) (I (by(try simp only[q55,q56,q59])<;>omega:o.length+[w_].length=(o++[w_]).length) (I (by(try simp only[q55,q56,q59])<;>omega:o.length+[w_].length<=2001) (q4J (⟨hI.1.word (λe=>h8 e.1) h9,by omega⟩:PtI s (i+1) (o++[w_]) (⟨#[]⟩:ByteArray)/\(i+1)<=s.size+1) (?_:s.size+1-(i+1)<s.size+1-i)))))) (λh10=>I (show(i+1)<=2001 by omega:Bnd (.nat .i64) (.n 2001) (i+1)) (I (?_:o.length=o.length) (q4J (⟨hI.1.none (λe=>h8 e.1) (Decidable.of_not_not h10),by omega⟩:PtI s (i+1) o (⟨#[]⟩:ByteArray)/\(i+1)<=s.size+1) (?_:s.size+1-(i+1)<s.size+1-i)))))) (λh11=>q4J (hI.1.fin h11 hI.2:o=qf s) ((congrArg List.length (hI.1.fin h11 hI.2):o.length=(qf s).length)))))))<;>omega)
abbrev WS:CtrO Tryz.prog:=FO.c WU
abbrev Xp:FI:=⟨9,[.str,.str],[(.n 2000),(.n 2000)],λz=>(λ(a:ByteArray)(b_:ByteArray)=>[a.size+b_.size+1<=2000]) z.1 z.2,λb z=>(λ(a:ByteArray)(b_:ByteArray)=> .c (.one (.dt .str (.n 2000) (mgB a b_)))) z.1 z.2⟩
theorem Xq:Xp.OK Tryz.prog:=mkF hmix 89 Tryz.func9 rfl rfl (by decide) [(18,.o WS)] (λ(a:ByteArray)(b_:ByteArray) b hx hp=>qx (q5C (DN a b_) (hp _ q5f)) rfl) (λ(a:ByteArray)(b_:ByteArray) hx hp=>by
 have hp0:a.size+b_.size+1<=2000:=hp _ (q5f)
 refine⟨.pre 1001004 (.frz 14 true [14]) (.pre 2 (.frz 15 true [5]) (.loop [.s 7 (.nat .i64) (.n 4003),.g 6 90002 .str (.n 2000) 4002] (λ((i,o):Nat×List ByteArray)=>o=soN (qf a++qf b_) i/\i<=(qf a++qf b_).length) (λ((i,o):Nat×List ByteArray)=>(qf a++qf b_).length-i) (λ((i,o):Nat×List ByteArray)=> .cond (.loop [.s 8 (.nat .i64) (.n 4002)] (λ(r:Nat)=>PsI ((qf a++qf b_).getD i ByteArray.empty) o r) (λ(r:Nat)=>r) (λ(r:Nat)=> .cond (.h 7 9 (.i .sub) (.h 7 12 (.ext extS) (.cond (.h 8 1 (.i .sub) (.nil)) (.cond (.h 9 5 (.i .sub) (.h 9 12 (.ext extS) (.cond (.nil) (.h 10 1 (.mk (.im .str (.n 2000))) (.h 11 7 (.ext IA) (.nil)))))) (.h 10 1 (.mk (.im .str (.n 2000))) (.h 11 7 (.ext IA) (.nil))))))) (.cond (.h 9 5 (.i .sub) (.h 9 12 (.ext extS) (.cond (.nil) (.h 10 1 (.mk (.im .str (.n 2000))) (.h 11 7 (.ext IA) (.nil)))))) (.h 10 1 (.mk (.im .str (.n 2000))) (.h 11 7 (.ext IA) (.nil)))))) (.pre 13 (.frz 90002 true [6]) (.pre 13 (.ex (rwS 6 (.sl .str) (.s 4002 (.n 2001)) (jv a b_))) (.loop [.s 10 (.nat .i64) (.n 4003),.s 9 .str (.n 4002)] (λ((j,u):Nat×ByteArray)=>u=jnN (jv a b_) j/\j<=(jv a b_).length) (λ((j,u):Nat×ByteArray)=>(jv a b_).length-j) (λ((j,u):Nat×ByteArray)=> .cond (.cond (.h 18 1 (.ext extS) (.h 19 5 (.ext extS) (.nil))) (.h 19 5 (.ext extS) (.nil))) (.nil)))))))),kcast (by kernel_rfl) (I (?_:a.size<=2000) (I (?_:b_.size<=2000) (I (?_:(qf b_).length=(qf b_).length) (I (?_:(qf a).length=(qf a).length) (I (by(try simp only[q55,q56,q59])<;>omega:((qf a).length)+(qf b_).length=((qf a)++(qf b_)).length) (have hpl:=(show(qf a++qf b_).length=(qf a).length+(qf b_).length from q55);have hpa:=(HU a);have hpb:=(HU b_);I (rfl:0=([]:List ByteArray).length) (I (⟨rfl,q5X _⟩:([]:List ByteArray)=soN (qf a++qf b_) 0/\0<=(qf a++qf b_).length) (λ(i:Nat)(o:List ByteArray)(hb1:HB [.s 7 (.nat .i64) (.n 4003),.g 6 90002 .str (.n 2000) 4002] (i,o))(hI:o=soN (qf a++qf b_) i/\i<=(qf a++qf b_).length)=>have hv24:=(show i<=4003 from hb1.1);have hv25:=(show o.length<=4002 from hb1.2.1);have hIi:=hI.2;have hol:=(show o.length<=i from q2Z hI.1 hI.2);Sp (i<((qf a)++(qf b_)).length) (λh2=>I (PsI.start _ _:PsI ((qf a++qf b_).getD i ByteArray.empty) o o.length) (λ(r:Nat)(hb3:HB [.s 8 (.nat .i64) (.n 4002)] r)(hR:PsI ((qf a++qf b_).getD i ByteArray.empty) o r)=>have hv16:=(show r<=4002 from hb3);have hrl:=hR.2;Sp (0<r) (λh4=>I (by(try simp only[q55,q56,q59])<;>omega:i<((qf a)++(qf b_)).length) (I (?_:1<=r) (I (?_:r-1<o.length) (I (?_:r-1<o.length) (Sp (ltB (((qf a)++(qf b_)).getD i ByteArray.empty) (o.getD (r-1) ByteArray.empty)) (λh5=>I (?_:1<=r) (q4J (hR.step h4 h5:PsI ((qf a++qf b_).getD i ByteArray.empty) o (r-1)) (?_:(r-1)<r))) (λh6=>Sp (0<r) (λh7=>I (?_:1<=r) (I (?_:r-1<o.length) (I (?_:r-1<o.length) (I (by(try simp only[q55,q56,q59])<;>omega:i<((qf a)++(qf b_)).length) (Sp ((o.getD (r-1) ByteArray.empty)=(((qf a)++(qf b_)).getD i ByteArray.empty)) (λh8=>I (show(i+1)<=4003 by omega:Bnd (.nat .i64) (.n 4003) (i+1)) (I (?_:o.length=o.length) (q4J (⟨QJ hI.1 (hR.pos (.inr h6)) h7 h8,by omega⟩:o=soN (qf a++qf b_) (i+1)/\(i+1)<=(qf a++qf b_).length) (?_:(qf a++qf b_).length-(i+1)<(qf a++qf b_).length-i)))) (λh9=>I (?_:o.length=o.length) (I (by(try simp only[q55,q56,q59])<;>omega:r+1<=o.length+[(⟨#[]⟩:ByteArray)].length) (I (by(try simp only[q55,q56,q59])<;>omega:o.length+[(⟨#[]⟩:ByteArray)].length<=(o++[(⟨#[]⟩:ByteArray)]).length) (I (by(try simp only[q55,q56,q59])<;>omega:r<=o.length+[(⟨#[]⟩:ByteArray)].length) (I (by(try simp only[q55,q56,q59])<;>omega:o.length+[(⟨#[]⟩:ByteArray)].length<=(o++[(⟨#[]⟩:ByteArray)]).length) (I (by(try simp only[q55,q56,q59])<;>omega:(r+1)+((o.length+[(⟨#[]⟩:ByteArray)].length) -(r+1))<=(o++[(⟨#[]⟩:ByteArray)]).length) (I (by(try simp only[q55,q56,q59])<;>omega:r+((o.length+[(⟨#[]⟩:ByteArray)].length) -r)<=(o++[(⟨#[]⟩:ByteArray)]).length) (I (by(try simp only[q55,q56,q59])<;>omega:i<((qf a)++(qf b_)).length) (I (by(try simp only[q55,q56,q59])<;>omega:r<o.length+[(⟨#[]⟩:ByteArray)].length) (I (LX (by omega):r<(cpyL (o++[(⟨#[]⟩:ByteArray)]) (r+1) r (min ((o.length+[(⟨#[]⟩:ByteArray)].length) -r) ((o.length+[(⟨#[]⟩:ByteArray)].length) -(r+1)))).length) (I (show(i+1)<=4003 by omega:Bnd (.nat .i64) (.n 4003) (i+1)) (I (LY (by omega):o.length+[(⟨#[]⟩:ByteArray)].length=((cpyL (o++[(⟨#[]⟩:ByteArray)]) (r+1) r (min ((o.length+[(⟨#[]⟩:ByteArray)].length) -r) ((o.length+[(⟨#[]⟩:ByteArray)].length) -(r+1)))).set r (((qf a)++(qf b_)).getD i ByteArray.empty)).length) (I (by(try simp only[q55,q56,q59])<;>omega:o.length+[(⟨#[]⟩:ByteArray)].length<=4002) (q4J (⟨Jr hI.1 (hR.pos (.inr h6)) hR.2 (.inr h9),by omega⟩:((cpyL (o++[(⟨#[]⟩:ByteArray)]) (r+1) r (min ((o.length+[(⟨#[]⟩:ByteArray)].length) -r) ((o.length+[(⟨#[]⟩:ByteArray)].length) -(r+1)))).set r (((qf a)++(qf b_)).getD i ByteArray.empty))=soN (qf a++qf b_) (i+1)/\(i+1)<=(qf a++qf b_).length) (?_:(qf a++qf b_).length-(i+1)<(qf a++qf b_).length-i)))))))))))))))))))) (λh10=>I (?_:o.length=o.length) (I (by(try simp only[q55,q56,q59])<;>omega:r+1<=o.length+[(⟨#[]⟩:ByteArray)].length) (I (by(try simp only[q55,q56,q59])<;>omega:o.length+[(⟨#[]⟩:ByteArray)].length<=(o++[(⟨#[]⟩:ByteArray)]).length) (I (by(try simp only[q55,q56,q59])<;>omega:r<=o.length+[(⟨#[]⟩:ByteArray)].length) (I (by(try simp only[q55,q56,q59])<;>omega:o.length+[(⟨#[]⟩:ByteArray)].length<=(o++[(⟨#[]⟩:ByteArray)]).length) (I (by(try simp only[q55,q56,q59])<;>omega:(r+1)+((o.length+[(⟨#[]⟩:ByteArray)].length) -(r+1))<=(o++[(⟨#[]⟩:ByteArray)]).length) (I (by(try simp only[q55,q56,q59])<;>omega:r+((o.length+[(⟨#[]⟩:ByteArray)].length) -r)<=(o++[(⟨#[]⟩:ByteArray)]).length) (I (by(try simp only[q55,q56,q59])<;>omega:i<((qf a)++(qf b_)).length) (I (by(try simp only[q55,q56,q59])<;>omega:r<o.length+[(⟨#[]⟩:ByteArray)].length) (I (LX (by omega):r<(cpyL (o++[(⟨#[]⟩:ByteArray)]) (r+1) r (min ((o.length+[(⟨#[]⟩:ByteArray)].length) -r) ((o.length+[(⟨#[]⟩:ByteArray)].length) -(r+1)))).length) (I (show(i+1)<=4003 by omega:Bnd (.nat .i64) (.n 4003) (i+1)) (I (LY (by omega):o.length+[(⟨#[]⟩:ByteArray)].length=((cpyL (o++[(⟨#[]⟩:ByteArray)]) (r+1) r (min ((o.length+[(⟨#[]⟩:ByteArray)].length) -r) ((o.length+[(⟨#[]⟩:ByteArray)].length) -(r+1)))).set r (((qf a)++(qf b_)).getD i ByteArray.empty)).length) (I (by(try simp only[q55,q56,q59])<;>omega:o.length+[(⟨#[]⟩:ByteArray)].length<=4002) (q4J (⟨Jr hI.1 (hR.pos (.inr h6)) hR.2 (.inl h10),by omega⟩:((cpyL (o++[(⟨#[]⟩:ByteArray)]) (r+1) r (min ((o.length+[(⟨#[]⟩:ByteArray)].length) -r) ((o.length+[(⟨#[]⟩:ByteArray)].length) -(r+1)))).set r (((qf a)++(qf b_)).getD i ByteArray.empty))=soN (qf a++qf b_) (i+1)/\(i+1)<=(qf a++qf b_).length) (?_:(qf a++qf b_).length-(i+1)<(qf a++qf b_).length-i))))))))))))))))))))) (λh11=>Sp (0<r) (λh12=>I (?_:1<=r) (I (?_:r-1<o.length) (I (?_:r-1<o.length) (I (by(try simp only[q55,q56,q59])<;>omega:i<((qf a)++(qf b_)).length) (Sp ((o.getD (r-1) ByteArray.empty)=(((qf a)++(qf b_)).getD i ByteArray.empty)) (λh13=>I (show(i+1)<=4003 by omega:Bnd (.nat .i64) (.n 4003) (i+1)) (I (?_:o.length=o.length) (q4J (⟨QJ hI.1 (hR.pos (.inl h11)) h12 h13,by omega⟩:o=soN (qf a++qf b_) (i+1)/\(i+1)<=(qf a++qf b_).length) (?_:(qf a++qf b_).length-(i+1)<(qf a++qf b_).length-i)))) (λh14=>I (?_:o.length=o.length) (I (by(try simp only[q55,q56,q59])<;>omega:r+1<=o.length+[(⟨#[]⟩:ByteArray)].length) (I (by(try simp only[q55,q56,q59])<;>omega:o.length+[(⟨#[]⟩:ByteArray)].length<=(o++[(⟨#[]⟩:ByteArray)]).length) (I (by(try simp only[q55,q56,q59])<;>omega:r<=o.length+[(⟨#[]⟩:ByteArray)].length) (I (by(try simp only[q55,q56,q59])<;>omega:o.length+[(⟨#[]⟩:ByteArray)].length<=(o++[(⟨#[]⟩:ByteArray)]).length) (I (by(try simp only[q55,q56,q59])<;>omega:(r+1)+((o.length+[(⟨#[]⟩:ByteArray)].length) -(r+1))<=(o++[(⟨#[]⟩:ByteArray)]).length) (I (by(try simp only[q55,q56,q59])<;>omega:r+((o.length+[(⟨#[]⟩:ByteArray)].length) -r)<=(o++[(⟨#[]⟩:ByteArray)]).length) (I (by(try simp only[q55,q56,q59])<;>omega:i<((qf a)++(qf b_)).length) (I (by(try simp only[q55,q56,q59])<;>omega:r<o.length+[(⟨#[]⟩:ByteArray)].length) (I (LX (by omega):r<(cpyL (o++[(⟨#[]⟩:ByteArray)]) (r+1) r (min ((o.length+[(⟨#[]⟩:ByteArray)].length) -r) ((o.length+[(⟨#[]⟩:ByteArray)].length) -(r+1)))).length) (I (show(i+1)<=4003 by omega:Bnd (.nat .i64) (.n 4003) (i+1)) (I (LY (by omega):o.length+[(⟨#[]⟩:ByteArray)].length=((cpyL (o++[(⟨#[]⟩:ByteArray)]) (r+1) r (min ((o.length+[(⟨#[]⟩:ByteArray)].length) -r) ((o.length+[(⟨#[]⟩:ByteArray)].length) -(r+1)))).set r (((qf a)++(qf b_)).getD i ByteArray.empty)).length) (I (by(try simp only[q55,q56,q59])<;>omega:o.length+[(⟨#[]⟩:ByteArray)].length<=4002) (q4J (⟨Jr hI.1 (hR.pos (.inl h11)) hR.2 (.inr h14),by omega⟩:((cpyL (o++[(⟨#[]⟩:ByteArray)]) (r+1) r (min ((o.length+[(⟨#[]⟩:ByteArray)].length) -r) ((o.length+[(⟨#[]⟩:ByteArray)].length) -(r+1)))).set r (((qf a)++(qf b_)).getD i ByteArray.empty))=soN (qf a++qf b_) (i+1)/\(i+1)<=(qf a++qf b_).length) (?_:(qf a++qf b_).length-(i+1)<(qf a++qf b_).length-i)))))))))))))))))))) (λh15=>I (?_:o.length=o.length) (I (by(try simp only[q55,q56,q59])<;>omega:r+1<=o.length+[(⟨#[]⟩:ByteArray)].length) (I (by(try simp only[q55,q56,q59])<;>omega:o.length+[(⟨#[]⟩:ByteArray)].length<=(o++[(⟨#[]⟩:ByteArray)]).length) (I (by(try simp only[q55,q56,q59])<;>omega:r<=o.length+[(⟨#[]⟩:ByteArray)].length) (I (by(try simp only[q55,q56,q59])<;>omega:o.length+[(⟨#[]⟩:ByteArray)].length<=(o++[(⟨#[]⟩:ByteArray)]).length) (I (by(try simp only[q55,q56,q59])<;>omega:(r+1)+((o.length+[(⟨#[]⟩:ByteArray)].length) -(r+1))<=(o++[(⟨#[]⟩:ByteArray)]).length) (I (by(try simp only[q55,q56,q59])<;>omega:r+((o.length+[(⟨#[]⟩:ByteArray)].length) -r)<=(o++[(⟨#[]⟩:ByteArray)]).length) (I (by(try simp only[q55,q56,q59])<;>omega:i<((qf a)++(qf b_)).length) (I (by(try simp only[q55,q56,q59])<;>omega:r<o.length+[(⟨#[]⟩:ByteArray)].length) (I (LX (by omega):r<(cpyL (o++[(⟨#[]⟩:ByteArray)]) (r+1) r (min ((o.length+[(⟨#[]⟩:ByteArray)].length) -r) ((o.length+[(⟨#[]⟩:ByteArray)].length) -(r+1)))).length) (I (show(i+1)<=4003 by omega:Bnd (.nat .i64) (.n 4003) (i+1)) (I (LY (by omega):o.length+[(⟨#[]⟩:ByteArray)].length=((cpyL (o++[(⟨#[]⟩:ByteArray)]) (r+1) r (min ((o.length+[(⟨#[]⟩:ByteArray)].length) -r) ((o.length+[(⟨#[]⟩:ByteArray)].length) -(r+1)))).set r (((qf a)++(qf b_)).getD i ByteArray.empty)).length) (I (by(try simp only[q55,q56,q59])<;>omega:o.length+[(⟨#[]⟩:ByteArray)].length<=4002) (q4J (⟨Jr hI.1 (hR.pos (.inl h11)) hR.2 (.inl h15),by omega⟩:((cpyL (o++[(⟨#[]⟩:ByteArray)]) (r+1) r (min ((o.length+[(⟨#[]⟩:ByteArray)].length) -r) ((o.length+[(⟨#[]⟩:ByteArray)].length) -(r+1)))).set r (((qf a)++(qf b_)).getD i ByteArray.empty))=soN (qf a++qf b_) (i+1)/\(i+1)<=(qf a++qf b_).length) (?_:(qf a++qf b_).length-(i+1)<(qf a++qf b_).length-i)))))))))))))))))) (λh17=>I (?_:o.length=o.length) (I (q2Y hI.1 (by omega) hI.2:o=(jv a b_)) (I (cn_b hp0:Bnd (.sl .str) (.s 4002 (.n 2001)) (jv a b_)) (I (⟨rfl,q5X _⟩:(⟨#[]⟩:ByteArray)=jnN (jv a b_) 0/\0<=(jv a b_).length) (λ(j:Nat)(u:ByteArray)(hb18:HB [.s 10 (.nat .i64) (.n 4003),.s 9 .str (.n 4002)] (j,u))(hK:u=jnN (jv a b_) j/\j<=(jv a b_).length)=>have hv23:=(show j<=4003 from hb18.1);have hKj:=hK.2;have hp1:=(show(⟨#[43]⟩:ByteArray).size=1 from rfl);have hcl:=(Tj a b_);Sp (j<(jv a b_).length) (λh19=>have hjx:=(q4d hK.1 (by omega));Sp (0<j) (λh20=>I (?_:j<(jv a b_).length) (I (show(j+1)<=4003 by omega:Bnd (.nat .i64) (.n 4003) (j+1)) (I (show ByteArray.size ((u++(⟨#[43]⟩:ByteArray))++((jv a b_).getD j ByteArray.empty))<=4002 by(try simp only[ByteArray.size_append,ByteArray.size_extract])<;>omega:Bnd .str (.n 4002) ((u++(⟨#[43]⟩:ByteArray))++((jv a b_).getD j ByteArray.empty))) (q4J (⟨q4b hK.1 h20,by omega⟩:(u++(⟨#[43]⟩:ByteArray))++((jv a b_).getD j ByteArray.empty)=jnN (jv a b_) (j+1)/\(j+1)<=(jv a b_).length) (?_:(jv a b_).length-(j+1)<(jv a b_).length-j))))) (λh21=>I (?_:j<(jv a b_).length) (I (show(j+1)<=4003 by omega:Bnd (.nat .i64) (.n 4003) (j+1)) (I (show ByteArray.size (u++((jv a b_).getD j ByteArray.empty))<=4002 by(try simp only[ByteArray.size_append,ByteArray.size_extract])<;>omega:Bnd .str (.n 4002) (u++((jv a b_).getD j ByteArray.empty))) (q4J (⟨q4a hK.1 h21,by omega⟩:u++((jv a b_).getD j ByteArray.empty)=jnN (jv a b_) (j+1)/\(j+1)<=(jv a b_).length) (?_:(jv a b_).length-(j+1)<(jv a b_).length-j)))))) (λh22=>(q1B hK.1 h22 hK.2:u=mgB a b_)))))))))))))))⟩<;>omega)
abbrev Xo:Ctr Tryz.prog:=FI.c Xq
theorem Fd(x:Nat):argsE [.mag] x=argsE [.sl (.nat .u32)] (limbs x):=by
 show[argC .mag x]=[argC (.sl (.nat .u32)) (limbs x)];unfold argC;rw[Bz];rfl
theorem ja{l:List Nat}{i:Nat}(h: ¬i<l.length):l.getD i 0=0:=by
 rw[q4X,q52 (by omega)];rfl
theorem MulJ.fin'{x y i j c:Nat}{o0 out:List Nat}(hI:MulI x y i o0)(hi:i<(limbs x).length)(h:MulJ x y i ((limbs x).getD i 0) j c o0 out)(hj:j=(limbs y).length):
  MulI x y (i+1) (out.set (i+(limbs y).length) c):=by
 subst hj;have:=MulJ.fin hI hi h
 rwa [q5H h.hc]at this
theorem MulI.fin'{x y i:Nat}{out:List Nat}(h:MulI x y i out)(hi:i=(limbs x).length):qe out=x*y/\ ∀u∈out,u<4294967296:=by subst hi;exact⟨h.fin,h.hu⟩
theorem SubI.fin'{x y i c:Nat}{out:List Nat}(h:SubI x y i c out)(hi:i=(limbs x).length)(hxy:y<=x):qe out=x-y/\(∀u∈out,u<4294967296):=by subst hi;exact h.fin hxy
theorem R5{a b:Nat}(x s:Nat)(hab:a=x*2^s)(hb:b<2^s)(h:a+b<18446744073709551616):wA .or .u64 (a:Int) (b:Int) ((a+b:Nat):Int):=Qi x s hab hb h
theorem q0Y{a b:Nat}(x s:Nat)(hab:a=x*2^s)(hb:b<2^s)(h:b+a<18446744073709551616):wA .or .u64 (b:Int) (a:Int) ((b+a:Nat):Int):=X7 x s hab hb h
theorem q0Z(x s:Nat)(h:s<=64)(hx:x*2^s<18446744073709551616):wA .shl .u64 (x:Int) (s:Int) ((x*2^s:Nat):Int):=⟨q4P _,Xu x s h hx⟩
theorem Ph{x u i r:Nat}{out:List Nat}(h:SmallI x u i r out)(hi:i=0):qe out=x/u/\r=x%u/\ ∀v∈out,v<4294967296:=by subst hi;exact⟨h.fin.1,h.fin.2,h.hu⟩
structure CmpI (x y:Nat) (z:Int):Prop where
 h0: -1<=z
 h1:z<(limbs x).length
 hd:(limbs x).drop (z+1).toNat=(limbs y).drop (z+1).toNat
theorem CmpI.start{x y:Nat}(h:(limbs x).length=(limbs y).length):CmpI x y (((limbs x).length:Int) -1):=by
 refine⟨by omega,by omega,?_⟩;rw[show((((limbs x).length:Int) -1)+1).toNat=(limbs x).length by omega,List.drop_length,h,List.drop_length]
theorem CmpI.at{x y:Nat}{z:Int}(hl:(limbs x).length=(limbs y).length)(h:CmpI x y z)(hz:0<=z):
  ((limbs x).getD z.toNat 0=(limbs y).getD z.toNat 0->CmpI x y (z-1))/\((limbs x).getD z.toNat 0<(limbs y).getD z.toNat 0->j9 x y= -1)/\((limbs y).getD z.toNat 0<(limbs x).getD z.toNat 0->j9 x y=1):=by
 have h1:=h.h1;have hd:=h.hd;rw[show(z+1).toNat=z.toNat+1 by omega]at hd;have q:=MU hl (show z.toNat<(limbs x).length by omega) hd;have q':=MU hl.symm (show z.toNat<(limbs y).length by omega) hd.symm;refine⟨λe=>⟨by omega,by omega,?_⟩,λe=>?_,λe=>?_⟩
 .rw[show(z-1+1).toNat=z.toNat by omega];exact q.1 e
 .have:=q.2 e;rw[j9,if_pos this]
 .have:=q'.2 e;rw[j9,if_neg (by omega),if_neg (by omega)]
theorem CmpI.fin{x y:Nat}{z:Int}(h:CmpI x y z)(hz:z<0):j9 x y=0:=by
 have h0:=h.h0;have hd:=h.hd;rw[show(z+1).toNat=0 by omega]at hd;exact DC.2 (q18 hd)
theorem MR{x y:Nat}(h:(limbs x).length<(limbs y).length):j9 x y= -1:=by rw[j9,if_pos (Ip h)]
theorem MT{x y:Nat}(h:(limbs y).length<(limbs x).length):j9 x y=1:=by
 have:=Ip h;rw[j9,if_neg (by omega),if_neg (by omega)]
theorem Pp(x y:Nat):(j9 x y).natAbs<=1:=by have:=q3U x y;omega
theorem Bnd.magLe{b:Bd}{x y:Nat}(h:Bnd .mag b x)(k:y<=x):Bnd .mag b y:=by
 cases b with
 |n b=>exact FE h k
 |_=>exact h.elim
structure SmallZ (x u:Nat) (z:Int) (r:Nat) (out:List Nat):Prop where
 h0: -1<=z
 h:SmallI x u (z+1).toNat r out
theorem SmallZ.start{x u:Nat}(hu:0<u):SmallZ x u (((limbs x).length:Int) -1) 0 (List.replicate (limbs x).length 0):=by
 refine⟨by omega,?_⟩;rw[show((((limbs x).length:Int) -1)+1).toNat=(limbs x).length by omega];exact SmallI.start hu
theorem SmallZ.b{x u r:Nat}{z:Int}{out:List Nat}(h:SmallZ x u z r out): -1<=z/\z<(limbs x).length/\out.length=(limbs x).length/\r<u:=by
 have h0:=h.h0;have h1:=h.h.hi;exact⟨h0,by omega,h.h.hl,h.h.hr⟩
theorem SmallZ.step{x u r d:Nat}{z:Int}{out:List Nat}(h:SmallZ x u z r out)(hz:0<=z)(hd:d=r*2^32+(limbs x).getD z.toNat 0):
  SmallZ x u (z-1) (d%u) (out.set z.toNat (d/u%4294967296)):=by
 refine⟨by omega,?_⟩;have e1:(z+1).toNat-1=z.toNat:=by omega
 have:=h.h.step (d:=d) (by omega) (by rw[e1];exact hd);rw[show(z-1+1).toNat=z.toNat by omega]
 rwa [e1]at this
theorem SmallZ.fin{x u r:Nat}{z:Int}{out:List Nat}(h:SmallZ x u z r out)(hz:z<0):qe out=x/u/\r=x%u/\ ∀v∈out,v<4294967296:=
 Ph h.h (by omega)
structure WordZ (x:Nat) (z:Int) (v:Nat):Prop where
 h0: -1<=z
 h1:z<(limbs x).length
 hv:v=qe ((limbs x).drop (z+1).toNat)
theorem WordZ.start(x:Nat):WordZ x (((limbs x).length:Int) -1) 0:=by
 refine⟨by omega,by omega,?_⟩;rw[show((((limbs x).length:Int) -1)+1).toNat=(limbs x).length by omega,List.drop_length];rfl
theorem WordZ.lt{x v:Nat}{z:Int}(h:WordZ x z v)(hx:(limbs x).length<=2)(hz:0<=z):v<4294967296:=by
 rw[h.hv];exact q0I hx (by omega)
theorem WordZ.step{x v:Nat}{z:Int}(h:WordZ x z v)(hz:0<=z):WordZ x (z-1) (v*2^32+(limbs x).getD z.toNat 0):=by
 have h1:=h.h1;refine⟨by omega,by omega,?_⟩;have:=VS (x:=x) (i:=z.toNat) (by omega);rw[show z.toNat+1=(z+1).toNat by omega,<-h.hv]at this;rw[show(z-1+1).toNat=z.toNat by omega];exact this
theorem WordZ.fin{x v:Nat}{z:Int}(h:WordZ x z v)(hz:z<0):v=x:=by
 have h0:=h.h0;have:=h.hv
 rwa [show(z+1).toNat=0 by omega,q4U,j8]at this
theorem Bnd.natLe{k:IntKind}{b:Bd}{x y:Nat}(h:Bnd (.nat k) b x)(hy:y<=x):Bnd (.nat k) b y:=by
 cases b with
 |n b=>exact q5C hy h
 |_=>exact h.elim
theorem magE(x:Nat)(b c:Bd):(WV.c (.one (.dt (.sl (.nat .u32)) b (limbs x)))).exp=(WV.c (.one (.dt .mag c x))).exp:=by
 show AV.c (.one ((ql (.sl (.nat .u32)) (limbs x)).headD _))=AV.c (.one ((ql .mag x).headD _));rw[Bz]
theorem Qd{ls:List Nat}(h: ∀u∈ls,u<4294967296):(limbs (qe ls)).length<=ls.length:=
 S2 (k:=ls.length) (zV ls h)
theorem XS{x m:Nat}(h:x<2^m):bl x<=m:=by
 rcases q5x x with e|e
 .subst e;rw[YJ];exact q5X _
 .have h2:=R6 (n:=x) (by omega)
  have h3:2^(bl x-1)<2^m:=q5D h2 h;have:=(Nat.pow_lt_pow_iff_right (show 1<2 by omega)).1 h3;omega
theorem q12{x b:Nat}(h:x<=b):bl x<=Nat.log2 b+1:=XS (q5D h Nat.lt_log2_self)
theorem q13{b:Bd}{k:IntKind}{x:Nat}(h:Bnd .mag b x):Bnd (.nat k) b (bl x):=by
 cases b with
 |n b=>exact XS h
 |_=>exact h.elim
theorem IR(x:Nat):IntKind.u8.wrap (x:Int)=((x%256:Nat):Int):=by
 simp only[IntKind.wrap,IntKind.bits,IntKind.signed];simp
theorem Nb(a b:Nat):Nat.gcd b (a%b)=Nat.gcd a b:=by
 rw[Nat.gcd_comm b,<-Nat.gcd_rec,Nat.gcd_comm]
def subC(x y:Nat):Int:=if x<y then 7 else 0
theorem q31(x y:Nat):(subC x y).natAbs<=7:=by unfold subC;split<;>decide
def sgI(neg:Bool)(n:Nat):Int:=if neg then-(n:Int)else n
def qw(neg:Bool)(n d:Nat):Rat:=mkRat (sgI neg n) d
theorem QE(neg:Bool)(n:Nat):(sgI neg n).natAbs=n:=by unfold sgI;split<;>simp
theorem Be(neg:Bool)(d:Nat):qw neg 0 d=0:=by unfold qw sgI;cases neg<;>simp
theorem Of(neg:Bool)(n:Nat):qw neg n 0=0:=by unfold qw;simp[Rat.mkRat_zero]
theorem jL{neg:Bool}{n d:Nat}(hd:0<d):(qw neg n d).num=sgI neg n/((Nat.gcd n d:Nat):Int)/\(qw neg n d).den=d/Nat.gcd n d:=by
 have h:qw neg n d=Rat.normalize (sgI neg n) d (by omega):=(Rat.normalize_eq_mkRat (by omega)).symm;have e:=Rat.normalize_eq (num:=sgI neg n) (den:=d) (by omega);rw[h,e];refine⟨?_,?_⟩
 .show sgI neg n/(((sgI neg n).natAbs.gcd d:Nat):Int)=_
  rw[QE]
 .show d/(sgI neg n).natAbs.gcd d=_
  rw[QE]
theorem vA{neg:Bool}{n d:Nat}(hd:0<d):(qw neg n d).num.natAbs=n/Nat.gcd n d:=by
 rw[(jL hd).1];unfold sgI;have hg:(Nat.gcd n d)∣n:=Nat.gcd_dvd_left n d;obtain⟨k,hk⟩:=hg;have hg0:0<Nat.gcd n d:=Nat.gcd_pos_of_pos_right _ hd;generalize Nat.gcd n d=g at*;subst hk;rw[Nat.mul_div_cancel_left _ hg0];split
 .rw[q4O,<-Int.mul_neg,Int.mul_ediv_cancel_left _ (by omega)];simp
 .rw[q4O,Int.mul_ediv_cancel_left _ (by omega)];simp
theorem zj{neg:Bool}{n d:Nat}(hn:0<n)(hd:0<d):decide ((qw neg n d).num<0)=neg:=by
 rw[(jL hd).1];have hg0:0<Nat.gcd n d:=Nat.gcd_pos_of_pos_right _ hd;obtain⟨k,hk⟩:=Nat.gcd_dvd_left n d;generalize Nat.gcd n d=g at*;subst hk;have hk0:0<k:=q5Q (λe=>by subst e;simp at hn);unfold sgI;cases neg
 .simp only[q4M,if_false,q4O,Int.mul_ediv_cancel_left _ (show(g:Int)≠0 by omega)]
  simp
 .simp only[if_true]
  rw[q4O,<-Int.mul_neg,Int.mul_ediv_cancel_left _ (by omega)];simp;omega
theorem q0r(a b:Bool)(n m:Nat):sgI a n*sgI b m=sgI (decide (a≠b)) (n*m):=by
 cases a<;>cases b<;>simp[sgI,q4O,Int.neg_mul,Int.mul_neg]
theorem Oe(z:Int):sgI (decide (z<0)) z.natAbs=z:=by
 unfold sgI;split<;>simp_all<;>omega
theorem vT(x:Rat):qw (decide (x.num<0)) x.num.natAbs x.den=x:=by
 unfold qw;rw[Oe];exact Rat.mkRat_self x
theorem GQ(a b:Bool)(n m d e:Nat):qw a n d*qw b m e=qw (decide (a≠b)) (n*m) (d*e):=by
 unfold qw;rw[Rat.mkRat_mul_mkRat,q0r]
theorem DU(x y:Rat):qw (decide (decide (x.num<0)≠decide (y.num<0))) (x.num.natAbs*y.num.natAbs) (x.den*y.den)=x*y:=by
 rw[<-GQ,vT,vT]
theorem q0s(a b:Bool)(n m:Nat){d e:Nat}(hd:0<d)(he:0<e):qw a n d+qw b m e=mkRat (sgI a (n*e)+sgI b (m*d)) (d*e):=by
 unfold qw;rw[Rat.mkRat_add_mkRat _ _ (by omega) (by omega)]
 congr 1
 unfold sgI;cases a<;>cases b<;>simp[q4O,Int.neg_mul]
theorem Od(a:Bool)(n m:Nat):sgI a n+sgI a m=sgI a (n+m):=by cases a<;>simp[sgI]<;>omega
theorem UW{a b:Bool}(h:a≠b){n m:Nat}(hm:m<=n):sgI a n+sgI b m=sgI a (n-m):=by
 cases a<;>cases b<;>simp_all [sgI]<;>omega
theorem UX{a b:Bool}(h:a≠b){n m:Nat}(hm:n<=m):sgI a n+sgI b m=sgI b (m-n):=by
 cases a<;>cases b<;>simp_all [sgI]<;>omega
theorem jr{neg:Bool}{n d p:Nat}(hn:qR n p)(hd:le2 d p)(h0:0<d):Bnd .rat (.n p) (qw neg n d):=by
 show qR _ _/\le2 _ _;rw[vA h0,(jL h0).2];exact⟨FE hn (q5u _ _),q5C (q5u _ _) hd⟩
theorem AD{x b:Nat}(h:x<=b):qR x (Nat.log2 b+1):=q5D h Nat.lt_log2_self
theorem jH{b:Bd}{x:Rat}(h:Bnd .rat b x):(WV.c (.agg [.dt .rat b x])).ok:=SX h
def nlw(v:Nat):Nat:=if v/2^32=0 then 1 else 2
def vk(l:List Nat)(lo v:Nat):List Nat:=if v/2^32=0 then l.set (lo+0) (v%4294967296)else(l.set (lo+0) (v%4294967296)).set (lo+1) (v/2^32)
theorem NG(v:Nat):1<=nlw v/\nlw v<=2:=by unfold nlw;split<;>omega
theorem O4(l:List Nat)(lo v:Nat):(vk l lo v).length=l.length:=by unfold vk;split<;>simp
theorem Xb{l:List Nat}{lo v:Nat}(hv:v<=18446744073709551615)(h: ∀u∈l,Bnd (.nat .u32) (.n 4294967295) u): ∀u∈vk l lo v,Bnd (.nat .u32) (.n 4294967295) u:=by
 have h1:=C1 (n:=lo+0) (q0E h) (q5I v (show 0<4294967296 by omega));unfold vk;split
 .exact λu hu=>q5A (h1 u hu)
 .exact λu hu=>q5A (C1 h1 (show v/2^32<4294967296 by omega) u hu)
theorem K5{v:Nat}(h0:0<v)(hv:v<=18446744073709551615):limbs v=if v/2^32=0 then[v%4294967296]else[v%4294967296,v/2^32]:=by
 rw[vM (by omega)];split
 .rename_i h
  rw[show v/4294967296=0 by omega];rw[EE]
 .rename_i h
  rw[vM (n:=v/4294967296) (by omega)];rw[show v/4294967296/4294967296=0 by omega,EE,q5H (show v/4294967296<4294967296 by omega)]
theorem QG{n:Nat}(h0:0<n)(hn:n<=18446744073709551615):(vk (List.replicate 4 (0:Nat)) 0 n).take (nlw n)=limbs n:=by
 rw[K5 h0 hn];unfold vk nlw
 split<;>simp[List.replicate]
theorem Oi{n d:Nat}(h0:0<n)(hn:n<=18446744073709551615):(vk (vk (List.replicate 4 (0:Nat)) 0 n) (nlw n) d).take (nlw n)=limbs n:=by
 rw[K5 h0 hn];unfold vk nlw
 split<;>split<;>simp[List.replicate]
theorem q0t{n d:Nat}(h0:0<d)(hd:d<=18446744073709551615):((vk (vk (List.replicate 4 (0:Nat)) 0 n) (nlw n) d).drop (nlw n)).take (nlw n+nlw d-nlw n)=limbs d:=by
 rw[K5 h0 hd,Nat.add_sub_cancel_left];unfold vk nlw
 split<;>split<;>simp[List.replicate]
theorem El{d:Nat}(h0:d≠0)(h:(denL d).length=0):d=1:=by
 unfold denL at h;split at h
 .assumption
 .exact absurd (nl0.1 h) h0
theorem Ix{d:Nat}(h: ¬(denL d).length=0):denL d=limbs d:=by
 unfold denL at h⊢;split
 .rename_i e;rw[if_pos e]at h;exact absurd rfl h
 .rfl
theorem Ze{a b p q:Nat}(ha:a<=p)(hb:b<=q):Nat.gcd a b<=max p q:=by
 rcases q5x a with e|e
 .subst e;rw[Nat.gcd_zero_left];omega
 .have:=Nat.gcd_le_left b e;omega
theorem CH{E:Nat}(h1:(limbs E).length=1)(h2:(limbs E).getD 0 0=1):E=1:=by
 have:=AN (x:=E) (by omega);rw[h1]at this;simp only[Nat.sub_self,List.take_zero,qe,h2]at this;omega
theorem Cd{D E:Nat}(h:E=D)(hn: ¬((limbs E).length=1/\(limbs E).getD 0 0=1)):limbs E=denL D:=by
 subst h;unfold denL;rw[if_neg];intro e;subst e;exact hn ⟨q1Q,by rw[D4];rfl⟩
theorem Y1{E:Nat}(h1:(limbs E).length=1):(limbs E).getD 0 0=E:=by
 have:=AN (x:=E) (by omega);rw[h1]at this;simp only[Nat.sub_self,List.take_zero,qe,Nat.pow_zero,Nat.one_mul,q5W]at this;exact this.symm
def bigQ(x:Rat):Prop:=1<(limbs x.num.natAbs).length\/1<(denL x.den).length
instance(x:Rat):Decidable (bigQ x):=by unfold bigQ;infer_instance
def pn(x:Rat):Nat:=if bigQ x then 0 else x.num.natAbs
def pd(x:Rat):Nat:=if bigQ x then 0 else x.den
def pb(x:Rat):Bool:=decide (¬bigQ x)
theorem Ul{x:Nat}(h:(limbs x).length<=1):x<4294967296:=by
 have h1:=zV (limbs x) (vr x);rw[j8]at h1;exact q5E h1 (q5S (n:=4294967296) (by omega) h)
theorem Je(x:Rat):pn x<=4294967295:=by
 unfold pn;split
 .omega
 .rename_i h;unfold bigQ at h;exact q5A (Ul (by omega))
theorem Wn{d:Nat}(h:(denL d).length<=1):d<4294967296:=by
 unfold denL at h;split at h
 .omega
 .exact Ul h
theorem Jb(x:Rat):pd x<=4294967295:=by
 unfold pd;split
 .omega
 .rename_i h;unfold bigQ at h;exact q5A (Wn (by omega))
theorem GK{x:Rat}(h:bigQ x):0=pn x/\0=pd x/\false=pb x:=by simp[pn,pd,pb,h]
theorem p_sm{x:Rat}(h: ¬bigQ x):x.num.natAbs=pn x/\x.den=pd x/\pb x=true:=by simp[pn,pd,pb,h]
theorem D9{x:Rat}(h:pb x=true):pn x=x.num.natAbs/\pd x=x.den/\0<pd x:=by
 have h: ¬bigQ x:=by simpa[pb]using h
 have:=p_sm h;have:=x.den_nz;omega
theorem Tq{d:Nat}(h:(denL d).length=1):(denL d).getD 0 0=d:=by
 have h': ¬(denL d).length=0:=by omega
 rw[Ix h']at h⊢;exact Y1 h
theorem I0{neg:Bool}{n d p:Nat}(hn:qR n p)(hd:qR d p):Bnd .rat (.n p) (qw neg n d):=by
 rcases q5x d with e|e
 .subst e;rw[Of]
  exact⟨q5T (by decide),q5T (by decide)⟩
 .exact jr hn (jI hd) e
theorem Dw{x y:Rat}{b c:Bd}(hx:Bnd .rat b x)(hy:Bnd .rat c y):Bnd .rat (.n (b.nb+c.nb)) (x*y):=by
 rw[<-DU];exact jr (Q5 hx.rat.1 hy.rat.1) (Q3 hx.rat.2 hy.rat.2) (q5P x.den_pos y.den_pos)
theorem Au{x:Rat}(h:x.num.natAbs=0):x=0:=by
 have:x.num=0:=Int.natAbs_eq_zero.1 h;exact Rat.num_eq_zero.1 this
theorem QF(v:Int):qw (decide (v<0)) v.natAbs 1=(v:Rat):=by
 unfold qw;rw[Oe];exact(Rat.mkRat_one v)
theorem PQ{v:Int}{b:Nat}(h:v.natAbs<=b):Bnd .rat (.n (Nat.log2 b+1)) (v:Rat):=by
 rw[<-QF];exact jr (AD h) (Nat.one_le_two_pow) (by decide)
def jp(x:Rat):Int:=if x.num.natAbs=0 then 0 else if x.num<0 then-1 else 1
theorem Oh(x:Rat):(jp x).natAbs<=1:=by
 unfold jp;split
 .decide
 .split<;>decide
theorem JL{l m:List Nat}{i:Nat}(hl:l.length=m.length)(h:l.take i=m.take i)(hi:i<l.length):(l.getD i 0=m.getD i 0->l.take (i+1)=m.take (i+1))/\(l.getD i 0≠m.getD i 0->l≠m):=by
 refine⟨λe=>?_,λe e2=>e (by rw[e2])⟩;rw[q5p hi,q5p (by omega),h];simp only[q4X,q51 hi,q51 (show i<m.length by omega),Option.getD_some]at e;rw[e]
theorem FZ {x y : Rat} (h : y.num.natAbs ≠ 0) : qw (decide (decide (x.num < 0) ≠ decide (y.num < 0))) (x.num.natAbs * y.den) (x.den * y.num.natAbs) = x / y := by
 have e : y⁻¹ = qw (decide (y.num < 0)) y.den y.num.natAbs := by
  conv => lhs; rw [<- Rat.num_divInt_den y]
  rw [Rat.inv_divInt];unfold qw sgI;by_cases hn : y.num < 0
  .simp only [hn, decide_true, if_true]
   rw [<- Rat.divInt_ofNat, <- Rat.neg_divInt_neg]
   congr 1; omega
  .simp only [hn, decide_false, q4M, if_false]
   rw [<- Rat.divInt_ofNat]
   congr 1; omega
 rw [Rat.div_def, e]
 conv => rhs; rw [<- vT x]
 rw [GQ]
def yQ(s:Bool)(y:Rat):Rat:=qw s y.num.natAbs y.den
theorem Bj(y:Rat):yQ (decide (y.num<0)) y=y:=vT y
theorem OX(y:Rat):yQ (!decide (y.num<0)) y= -y:=by
 have h: -y=mkRat (-y.num) y.den:=by rw[<-Rat.neg_mkRat,Rat.mkRat_self]
 by_cases h0:y.num.natAbs=0
 .have:=Au h0
  subst this;rfl
 .rw[h];unfold yQ qw sgI
  congr 1
  by_cases hn:y.num<0
  .simp[hn];omega
  .simp[hn];omega
theorem Id(s:Bool)(x y:Rat):x+yQ s y=mkRat (sgI (decide (x.num<0)) (x.num.natAbs*y.den)+sgI s (y.num.natAbs*x.den)) (x.den*y.den):=by
 conv=>lhs;rw[<-vT x]
 exact q0s _ _ _ _ x.den_pos y.den_pos
theorem Fa{s:Bool}{x y:Rat}(h:decide (x.num<0)=s):qw s (x.num.natAbs*y.den+y.num.natAbs*x.den) (x.den*y.den)=x+yQ s y:=by
 rw[Id,h,Od];rfl
theorem F8{s:Bool}{x y:Rat}(h:decide (x.num<0)≠s)(hm:y.num.natAbs*x.den<=x.num.natAbs*y.den):qw (decide (x.num<0)) (x.num.natAbs*y.den-y.num.natAbs*x.den) (x.den*y.den)=x+yQ s y:=by
 rw[Id,UW h hm];rfl
theorem F9{s:Bool}{x y:Rat}(h:decide (x.num<0)≠s)(hm:x.num.natAbs*y.den<=y.num.natAbs*x.den):qw s (y.num.natAbs*x.den-x.num.natAbs*y.den) (x.den*y.den)=x+yQ s y:=by
 rw[Id,UX h hm];rfl
theorem Hr{d e:Nat}(hd:d≠0)(he:e≠0)(h:denL d=denL e):d=e:=by
 by_cases h1:d=1
 .subst h1
  have:(denL e).length=0:=by rw[<-h];rfl
  exact(El he this).symm
 .by_cases h2:e=1
  .subst h2
   exact El hd (by rw[h];rfl)
  .unfold denL at h
   rw[if_neg h1,if_neg h2]at h;have:=congrArg qe h
   rwa [j8,j8]at this
theorem EI{x y a b:Nat}(h:qR x a)(k:le2 y b):qR (x*y) (a+b):=by
 unfold qR le2 at*;rw[q5R];exact q5D (Nat.mul_le_mul_left _ k) (Nat.mul_lt_mul_of_pos_right h (q5T (by decide)))
theorem JE{s:Bool}{x y:Rat}{b c:Bd}(hx:Bnd .rat b x)(hy:Bnd .rat c y):Bnd .rat (.n (b.nb+c.nb+1)) (x+yQ s y):=by
 have h1:=EI hx.rat.1 hy.rat.2;have h2:=EI hy.rat.1 hx.rat.2;have h3:=Q3 hx.rat.2 hy.rat.2
 have h4:qR (x.num.natAbs*y.den+y.num.natAbs*x.den) (b.nb+c.nb+1):=by
  rw[Nat.add_comm c.nb]at h2;have:=K7 h1 h2
  rwa [Nat.max_self]at this
 have hp:=q5P x.den_pos y.den_pos;have h5:le2 (x.den*y.den) (b.nb+c.nb+1):=HD (Nat.le_succ _) h3;by_cases e:decide (x.num<0)=s
 .rw[<-Fa e];exact jr h4 h5 hp
 .rcases Nat.le_total (y.num.natAbs*x.den) (x.num.natAbs*y.den)with hm|hm
  .rw[<-F8 e hm];exact jr (FE h4 (by omega)) h5 hp
  .rw[<-F9 e hm];exact jr (FE h4 (by omega)) h5 hp
def cy(a b:Nat):Nat:=(a+b)/18446744073709551616
theorem q43{a b:Nat}(h:a<=4294967295*4294967295)(k:b<=4294967295*4294967295):cy a b<=1:=by unfold cy;omega
theorem q19{a b:Nat}(h:cy a b=0):(a+b)%18446744073709551616=a+b:=by unfold cy at h;omega
theorem Hj{x y:Rat}{b c:Bd}(hx:Bnd .rat b x)(hy:Bnd .rat c y):Bnd .rat (.n (b.nb+c.nb+1)) (x+y):=by
 have:=JE (s:=decide (y.num<0)) hx hy
 rwa [Bj]at this
theorem Oq{x y:Rat}{b c:Bd}(hx:Bnd .rat b x)(hy:Bnd .rat c y):Bnd .rat (.n (b.nb+c.nb+1)) (x-y):=by
 have:=JE (s:=!decide (y.num<0)) hx hy
 rwa [OX,<-Rat.sub_eq_add_neg]at this
theorem Qq{x y:Rat}{b c:Bd}(hx:Bnd .rat b x)(hy:Bnd .rat c y):Bnd .rat (.n (b.nb+c.nb)) (x/y):=by
 by_cases h:y.num.natAbs=0
 .rw[Au h,Rat.div_def,Rat.inv_zero,Rat.mul_zero]
  exact⟨q5T (by decide),q5T (by decide)⟩
 .rw[<-FZ h]
  have h2:=EI hy.rat.1 hx.rat.2;rw[Nat.add_comm,q5M]at h2;exact jr (EI hx.rat.1 hy.rat.2) (jI h2) (q5P x.den_pos (by omega))
theorem Yn{x y:Rat}(h:y.num.natAbs=0):0=x/y:=by rw[Au h,Rat.div_def,Rat.inv_zero,Rat.mul_zero]
def quoC(y:Rat):Int:=if y.num.natAbs=0 then 3 else 0
theorem UF(y:Rat):(quoC y).natAbs<=3:=by unfold quoC;split<;>decide
theorem Og{y:Rat}:jp y=0↔y.num.natAbs=0:=by
 unfold jp;split
 .simp_all
 .split<;>simp_all
def cmpQ(x y:Rat):Int:=if x<y then-1 else if x=y then 0 else 1
theorem MQ(x y:Rat):(cmpQ x y).natAbs<=1:=by
 unfold cmpQ;split
 .decide
 .split<;>decide
def cmpL(x y:Rat):Int:=j9 (x.num.natAbs*y.den) (y.num.natAbs*x.den)
theorem Ji{x y:Rat}:x=y↔x.num*y.den=y.num*x.den:=by
 constructor
 .intro h;subst h;rfl
 .intro h
  rw[<-Rat.mkRat_self x,<-Rat.mkRat_self y];exact(Rat.mkRat_eq_iff x.den_nz y.den_nz).2 h
theorem JI(x y:Rat):cmpQ x y=if x.num*y.den<y.num*x.den then-1 else if x.num*y.den=y.num*x.den then 0 else 1:=by
 unfold cmpQ;by_cases h:x<y
 .rw[if_pos h,if_pos ((Rat.lt_iff x y).1 h)]
 .rw[if_neg h,if_neg (mt (Rat.lt_iff x y).2 h)]
  by_cases e:x=y
  .rw[if_pos e,if_pos (Ji.1 e)]
  .rw[if_neg e,if_neg (mt Ji.2 e)]
theorem UY(z:Int){d:Nat}(hd:0<d):(z<0->z*(d:Int)<0)/\(z=0->z*(d:Int)=0)/\(0<z->0<z*(d:Int)):=
 ⟨λh=>Int.mul_neg_of_neg_of_pos h (by omega),λh=>by rw[h,Int.zero_mul],λh=>Int.mul_pos h (by omega)⟩
theorem AE(x:Rat):(x.num<0/\jp x= -1)\/(x.num=0/\jp x=0)\/(0<x.num/\jp x=1):=by
 unfold jp;by_cases h:x.num.natAbs=0
 .rw[if_pos h];omega
 .rw[if_neg h]
  by_cases h2:x.num<0
  .rw[if_pos h2];omega
  .rw[if_neg h2];omega
theorem Gm{x y:Rat}(h:jp x≠jp y):(jp x<jp y->cmpQ x y= -1)/\(¬jp x<jp y->cmpQ x y=1):=by
 have h1:=UY x.num y.den_pos;have h2:=UY y.num x.den_pos;have c1:=AE x;have c2:=AE y;rw[JI];generalize x.num*(y.den:Int)=A at*;generalize y.num*(x.den:Int)=B at*;refine⟨λhl=>?_,λhl=>?_⟩
 .rw[if_pos (by omega)]
 .rw[if_neg (by omega),if_neg (by omega)]
theorem Pr{x y:Rat}(hs:jp x=jp y)(h: ¬x.num<0):cmpQ x y=cmpL x y:=by
 have c1:=AE x;have c2:=AE y;have e1:x.num*(y.den:Int)=((x.num.natAbs*y.den:Nat):Int):=by rw[q4O,Int.natAbs_of_nonneg (by omega)]
 have e2:y.num*(x.den:Int)=((y.num.natAbs*x.den:Nat):Int):=by rw[q4O,Int.natAbs_of_nonneg (by omega)]
 rw[JI,e1,e2];unfold cmpL j9;generalize x.num.natAbs*y.den=A;generalize y.num.natAbs*x.den=B;by_cases g:A<B
 .rw[if_pos (by omega),if_pos g]
 .rw[if_neg (by omega),if_neg g]
  by_cases g2:A=B
  .rw[if_pos (by omega),if_pos g2]
  .rw[if_neg (by omega),if_neg g2]
theorem Pq{x y:Rat}(hs:jp x=jp y)(h:x.num<0):cmpQ x y= -cmpL x y:=by
 have c1:=AE x;have c2:=AE y
 have e1:x.num*(y.den:Int)= -((x.num.natAbs*y.den:Nat):Int):=by
  rw[q4O,<-Int.neg_mul];congr 1;omega
 have e2:y.num*(x.den:Int)= -((y.num.natAbs*x.den:Nat):Int):=by
  rw[q4O,<-Int.neg_mul];congr 1;omega
 rw[JI,e1,e2];unfold cmpL j9;generalize x.num.natAbs*y.den=A;generalize y.num.natAbs*x.den=B;by_cases g:A<B
 .rw[if_neg (by omega),if_neg (by omega),if_pos g];rfl
 .rw[if_neg g]
  by_cases g2:A=B
  .rw[if_neg (by omega),if_pos (by omega),if_pos g2];rfl
  .rw[if_pos (by omega),if_neg g2]
theorem Wc{a b c:Nat}(h:0<c):j9 (a*c) (b*c)=j9 a b:=by
 unfold j9;simp only[Nat.mul_lt_mul_right h,Nat.mul_left_inj (Nat.ne_of_gt h)]
theorem Ek{x y:Rat}(h:x.den=y.den):j9 x.num.natAbs y.num.natAbs=cmpL x y:=by
 unfold cmpL;rw[<-h,Wc x.den_pos]
theorem Th{x y:Rat}(hx:pn x=x.num.natAbs/\pd x=x.den/\0<pd x)(hy:pn y=y.num.natAbs/\pd y=y.den/\0<pd y):cmpL x y=j9 (pn x*pd y) (pn y*pd x):=by
 unfold cmpL;rw[hx.1,hx.2.1,hy.1,hy.2.1]
theorem Ua{a b:Nat}(h:limbs a=limbs b):a=b:=by
 have:=congrArg qe h
 rwa [j8,j8]at this
theorem EW(x y:Rat):x=y↔decide (x.num<0)=decide (y.num<0)/\limbs x.num.natAbs=limbs y.num.natAbs/\denL x.den=denL y.den:=by
 constructor
 .intro h;subst h;exact⟨rfl,rfl,rfl⟩
 .rintro⟨h1,h2,h3⟩
  rw[<-vT x,<-vT y,h1,Ua h2,Hr x.den_nz y.den_nz h3]
theorem q4z{x y:Rat}(h: ¬decide (x.num<0)=decide (y.num<0)):false=decide (x=y):=(decide_eq_false (λe=>h ((EW x y).1 e).1)).symm
theorem q4A{x y:Rat}(h: ¬decide (limbs x.num.natAbs=limbs y.num.natAbs)=true):false=decide (x=y):=(decide_eq_false (λe=>h (decide_eq_true ((EW x y).1 e).2.1))).symm
theorem q4B{x y:Rat}(h1:decide (x.num<0)=decide (y.num<0))(h2:decide (limbs x.num.natAbs=limbs y.num.natAbs)=true):decide (denL x.den=denL y.den)=decide (x=y):=by
 rw[decide_eq_decide,EW];exact⟨λh=>⟨h1,of_decide_eq_true h2,h⟩,λh=>h.2.2⟩
theorem SubI.lt{x y i c s:Nat}{out:List Nat}(h:SubI x y i c out)(hi:i<(limbs x).length)(hs:s=c+(limbs y).getD i 0)(hl:(limbs x).getD i 0<s):
  SubI x y (i+1) 1 (out.set i (((limbs x).getD i 0+4294967296-s)%4294967296)):=by
 have h1:=qz x i;have h2:=qz y i;have hc:=h.hc;have:=h.step hi hs;have e:dif ((limbs x).getD i 0) s=(limbs x).getD i 0+18446744073709551616-s:=by rw[N2];omega
 rw[e,show((limbs x).getD i 0+18446744073709551616-s)/9223372036854775808=1 by omega,show((limbs x).getD i 0+18446744073709551616-s)%4294967296=((limbs x).getD i 0+4294967296-s)%4294967296 by omega]at this;exact this
theorem SubI.ge{x y i c s:Nat}{out:List Nat}(h:SubI x y i c out)(hi:i<(limbs x).length)(hs:s=c+(limbs y).getD i 0)(hl: ¬(limbs x).getD i 0<s):
  SubI x y (i+1) 0 (out.set i ((limbs x).getD i 0-s)):=by
 have h1:=qz x i;have:=h.step hi hs;have e:dif ((limbs x).getD i 0) s=(limbs x).getD i 0-s:=by rw[N2];omega
 rw[e,show((limbs x).getD i 0-s)/9223372036854775808=0 by omega,show((limbs x).getD i 0-s)%4294967296=(limbs x).getD i 0-s by omega]at this;exact this
def xw(x:Nat):Nat:=if(limbs x).length<=2 then x else 0
def xk(x:Nat):Bool:=decide ((limbs x).length<=2)
theorem q4I(x:Nat):xw x<=18446744073709551615:=by
 unfold xw;split
 .exact q5A (Um (by assumption))
 .omega
theorem xw_y{x:Nat}(h:(limbs x).length<=2):xw x=x/\xk x=true:=⟨if_pos h,decide_eq_true h⟩
theorem xw_n{x:Nat}(h: ¬(limbs x).length<=2):xw x=0/\xk x=false:=⟨if_neg h,decide_eq_false h⟩
theorem VD{x:Nat}(h:(limbs x).length=2):(limbs x).getD 0 0+(limbs x).getD 1 0*2^32=x:=by
 have h1:=AN (x:=x) (by omega);rw[h]at h1;have h2:=jN (limbs x) 0;simp only[Nat.reduceSub,q5W,List.take_zero,qe,Nat.pow_zero,Nat.pow_one,Nat.one_mul]at h1 h2;omega
theorem VH(l:List Nat)(u:Nat):qe (l++[u])=qe l+4294967296^l.length*u:=by rw[Bv];simp[qe]
theorem q0z{l:List Nat}{u:Nat}(h: ∀v∈l,v<4294967296)(hu:u<4294967296): ∀v∈l++[u],v<4294967296:=by
 intro v hv;rcases q5c.1 hv with hv|hv
 .exact h v hv
 .rw[q5j.1 hv];exact hu
theorem Nx{l:List Nat}(hu: ∀v∈l,v<4294967296)(h:(limbs (qe l)).length=l.length):l=limbs (qe l):=by
 have h1:=NY hu;have h2:=NY (vr (qe l));rw[j8,h]at h2;exact h1.trans h2.symm
structure AddX (x y i c:Nat) (out:List Nat):Prop where
 hl:out.length=i
 hu: ∀u∈out,u<4294967296
 hc:c<=1
 hv:qe out+4294967296^i*c=qe ((limbs x).take i)+qe ((limbs y).take i)
 hi:i<=max (limbs x).length (limbs y).length+1
 hm:i=max (limbs x).length (limbs y).length+1->c=0/\4294967296^(max (limbs x).length (limbs y).length)<=x+y
theorem AddX.start(x y:Nat):AddX x y 0 0 []:=⟨rfl,λu hu=>by simp at hu,by omega,by simp[qe],by omega,λh=>by omega⟩
theorem AddX.le{x y i c:Nat}{out:List Nat}(h:AddX x y i c out)(hc:i<(limbs x).length\/i<(limbs y).length\/c≠0):i<=max (limbs x).length (limbs y).length:=by
 have:=h.hi;rcases q5F (max (limbs x).length (limbs y).length) i with e|e
 .have:=h.hm (by omega);omega
 .exact e
theorem AddX.step{x y i c s:Nat}{out:List Nat}(h:AddX x y i c out)(hc:i<(limbs x).length\/i<(limbs y).length\/c≠0)(hs:s=c+(limbs x).getD i 0+(limbs y).getD i 0):
  AddX x y (i+1) (s/2^32) (out++[s%4294967296]):=by
 have hx:=qz x i;have hy:=qz y i;have hc1:=h.hc;have hle:=h.le hc;refine⟨by simp[h.hl],q0z h.hu (q5I _ (by omega)),by omega,?_,by omega,?_⟩
 .rw[VH,h.hl,jN,jN,q5U]
  have e:4294967296^i*(s%4294967296)+4294967296^i*4294967296*(s/2^32)=4294967296^i*s:=by
   rw[q5L,<-q5K,show s/2^32=s/4294967296 from rfl,Nat.mod_add_div]
  have e2:4294967296^i*s=4294967296^i*c+4294967296^i*(limbs x).getD i 0+4294967296^i*(limbs y).getD i 0:=by rw[hs,q5K,q5K]
  have:=h.hv;omega
 .intro e
  have hx0:(limbs x).getD i 0=0:=ja (by omega);have hy0:(limbs y).getD i 0=0:=ja (by omega);have hv:=h.hv;have hc0:c=1:=by omega
  rw[wk (by omega),wk (by omega),j8,j8,hc0,show i=max (limbs x).length (limbs y).length by omega]at hv;refine⟨by omega,by omega⟩
theorem AddX.step2{x y i c s u:Nat}{out:List Nat}(h:AddX x y i c out)(hc:i<(limbs x).length\/i<(limbs y).length\/c≠0)(hs:s=c+(limbs x).getD i 0+(limbs y).getD i 0)(hu:u=s%4294967296):
  AddX x y (i+1) (s/2^32) (out++[u]):=by subst hu;exact h.step hc hs
theorem AddX.fin{x y i c:Nat}{out:List Nat}(h:AddX x y i c out)(h1: ¬i<(limbs x).length)(h2: ¬i<(limbs y).length)(h0:c=0):out=limbs (x+y):=by
 have hv:=h.hv;rw[wk (by omega),wk (by omega),j8,j8,h0,Nat.mul_zero,q5t]at hv;rw[<-hv];refine Nx h.hu ?_;have l1:=Qd h.hu;have l2:(limbs x).length<=(limbs (qe out)).length:=wM (by omega);have l3:(limbs y).length<=(limbs (qe out)).length:=wM (by omega);have hl:=h.hl;have hi:=h.hi;rcases q5F (max (limbs x).length (limbs y).length) i with e|e
 .have h9:=(h.hm (by omega)).2
  have:max (limbs x).length (limbs y).length<(limbs (qe out)).length:=by
   apply Nat.lt_of_not_le;intro hl;have h3:=zV (limbs (qe out)) (vr _);rw[j8]at h3;have h4:=q5S (show 0<4294967296 by omega) hl;omega
  omega
 .omega
def dm(d:Nat):Nat:=if d=1 then 0 else d
theorem Px(d:Nat):denL d=limbs (dm d):=by unfold denL dm;split<;>rfl
theorem Tt{d b:Nat}(h:le2 d b):qR (dm d) (b+1):=by
 unfold dm;split
 .exact q5T (by omega)
 .exact K0 h
theorem q1c{d e:Nat}(hd:d≠0)(he:e≠0):j9 (dm d) (dm e)=0↔d=e:=by
 rw[DC];unfold dm;split<;>split<;>omega
theorem ysame{x y:Rat}(h: ¬decide (x.num<0)=decide (y.num<0)\/ ¬j9 x.num.natAbs y.num.natAbs=0\/ ¬j9 (dm x.den) (dm y.den)=0):false=decide (x=y):=by
 symm;apply decide_eq_false
 intro e;subst e
 rcases h with h|h|h
 .exact h rfl
 .exact h (DC.2 rfl)
 .exact h (DC.2 rfl)
theorem q3K{x y:Rat}(h1:decide (x.num<0)=decide (y.num<0))(h2:j9 x.num.natAbs y.num.natAbs=0):decide (j9 (dm x.den) (dm y.den)=0)=decide (x=y):=by
 have e:j9 (dm x.den) (dm y.den)=0↔x=y:=by
  rw[q1c x.den_nz y.den_nz,EW x y];constructor
  .intro h;exact⟨h1,by rw[DC.1 h2],by rw[h]⟩
  .rintro⟨_,_,h⟩;exact Hr x.den_nz y.den_nz h
 rw[decide_eq_decide];exact e
theorem Ka(x:Rat):(-x).num.natAbs=x.num.natAbs:=by rw[Rat.neg_num,Int.natAbs_neg]
theorem wy{x:Rat}{b:Bd}(h:Bnd .rat b x):Bnd .rat (.n b.nb) (-x):=by
 have h1:=h.rat;exact⟨by rw[Ka];exact h1.1,by rw[Rat.neg_den];exact h1.2⟩
theorem q1O{x:Rat}(h: ¬x.num<0):decide (0<(limbs x.num.natAbs).length)=decide ((-x).num<0):=by
 rw[decide_eq_decide,Rat.neg_num];have:= @nl0 x.num.natAbs;omega
theorem q1P{x:Rat}(h:x.num<0):false=decide ((-x).num<0):=by
 symm;apply decide_eq_false;rw[Rat.neg_num];omega
theorem C7(v:Int):((v:Rat)).num=v:=Rat.num_intCast v
theorem Gw(v:Int):((v:Rat)).den=1:=Rat.den_intCast v
def mkC'(d:Int):Int:=if d=0 then 3 else 0
theorem q4i(d:Int):(mkC' d).natAbs<=3:=by unfold mkC';split<;>decide
theorem Q7(n d:Int):qw (decide (decide (n<0)≠decide (d<0))) n.natAbs d.natAbs=(n:Rat)/(d:Rat):=by
 by_cases h:d=0
 .subst h;simp[Of,Rat.div_def]
 .have:=FZ (x:=(n:Rat)) (y:=(d:Rat)) (by rw[C7];omega)
  rw[C7,C7,Gw,Gw,Nat.mul_one,Nat.one_mul]at this;exact this
theorem WQ{n d:Int}{b c:Nat}(hn:n.natAbs<=b)(hd:d.natAbs<=c):Bnd .rat (.n (max (Nat.log2 b+1) (Nat.log2 c+1))) ((n:Rat)/(d:Rat)):=by
 rw[<-Q7];exact I0 (qr (Nat.le_max_left _ _) (AD hn)) (qr (Nat.le_max_right _ _) (AD hd))
def Bd.mx:Bd->Nat
 | .u=>0
 | .n b=>b
 | .s _ e=>e.mx
 | .p a b=>max a.mx b.mx
abbrev V3:Type:=Rat×Rat×Rat
abbrev tV3:Ty:= .pr .rat (.pr .rat .rat)
theorem O6{b:Bd}{x:Rat}{m:Nat}(h:Bnd .rat b x)(hm:b.nb<=m):Bnd .rat (.n m) x:=by
 have h:=h.rat;exact⟨qr hm h.1,q5C h.2 (q5S (by omega) hm)⟩
theorem Bd.nb_mx(b:Bd):b.nb<=b.mx:=by cases b<;>simp[Bd.nb,Bd.mx]
theorem Bd.l_mx(b:Bd):b.l.mx<=b.mx:=by cases b<;>simp[Bd.l,Bd.mx]<;>omega
theorem Bd.r_mx(b:Bd):b.r.mx<=b.mx:=by cases b<;>simp[Bd.r,Bd.mx]<;>omega
theorem Bnd.v3{b:Bd}{x:V3}(h:Bnd tV3 b x):Bnd .rat (.n b.mx) x.1/\Bnd .rat (.n b.mx) x.2.1/\Bnd .rat (.n b.mx) x.2.2:=by
 have h1:=h.pr;have h2:=h1.2.pr;have:=b.l_mx;have:=b.r_mx;have:=b.r.l_mx;have:=b.r.r_mx
 exact⟨O6 h1.1 (q5C (Bd.nb_mx _) (by omega)),O6 h2.1 (q5C (Bd.nb_mx _) (by omega)),O6 h2.2 (q5C (Bd.nb_mx _) (by omega))⟩
theorem nd{p:Prop}[Decidable p](h:(!decide p)=true): ¬p:=by simpa using h
theorem nd'{p:Prop}[Decidable p](h: ¬(!decide p)=true):p:=by simpa using h
abbrev Dice:Type:=List Int×Nat
abbrev SD:Ty:= .pr (.sl (.int .i64)) (.nat .i64)
theorem mod_a{a m:Int}(hm:0<m)(h:Int.tmod a m<0):Int.tmod a m+m=a%m:=by
 have h1:=Int.tmod_eq_emod (a:=a) (b:=m);have h2:=Int.emod_nonneg a (show m≠0 by omega);have h3:=Int.emod_lt_of_pos a hm;split at h1<;>omega
theorem q4j{a m:Int}(hm:0<m)(h: ¬Int.tmod a m<0):Int.tmod a m=a%m:=by
 have h1:=Int.tmod_eq_emod (a:=a) (b:=m);have h2:=Int.emod_nonneg a (show m≠0 by omega);have h3:=Int.emod_lt_of_pos a hm;split at h1<;>omega
theorem Ui{a m:Int}{b:Nat}(hm:0<m)(hb:Int.natAbs m<=b):(a%m).natAbs<=b:=by
 have h2:=Int.emod_nonneg a (show m≠0 by omega);have h3:=Int.emod_lt_of_pos a hm;omega
def wD(s:Dice)(m:Int):Int:=if s.1.length<=s.2 then 0 else s.1.getD s.2 0%m
def zP(s:Dice):Dice:=if s.1.length<=s.2 then s else(s.1,s.2+1)
theorem ZX{s:Dice}{m:Int}{b:Nat}(hm:0<m)(hb:Int.natAbs m<=b):(wD s m).natAbs<=b:=by
 unfold wD;split
 .simp
 .exact Ui hm hb
theorem Qc(s:Dice){m:Int}(hm:0<m):0<=wD s m/\wD s m<m:=by
 unfold wD;split
 .omega
 .exact⟨Int.emod_nonneg _ (by omega),Int.emod_lt_of_pos _ hm⟩
theorem Qb{s:Dice}{b:Bd}(h:Bnd SD b s):Bnd SD (.p b.l (.n (max b.r.nb b.l.len))) (zP s):=by
 have h1:=h.pr;have h2:=h1.2.nat;have h3:=h1.1.sl.1;unfold zP;split
 .exact⟨h1.1,q5C h2 (Nat.le_max_left _ _)⟩
 .refine⟨h1.1,?_⟩
  show s.2+1<=_;have:=Nat.le_max_right b.r.nb b.l.len;omega
abbrev ZF:FI:=⟨4,[(.sl (.int .i64))],[(.s 9223372036854775807 (.n 9223372036854775808))],λ_=>[],λb z=>(λ(l:List Int)=> .c (.one (.dt .bool .u (decide (l.length<=500))))) z⟩
theorem ZG:ZF.OK Tryz.prog:=mkF hmix 6 Tryz.func4 rfl rfl (by decide) [] (λ(l:List Int) b hx hp=>qx trivial rfl) (λ(l:List Int) hx hp=>by
 refine⟨.nil,kcast (by kernel_rfl) ((Eq.refl (decide (l.length<=500))))⟩)
abbrev ZE:Ctr Tryz.prog:=FI.c ZG
abbrev q1e:FI:=⟨23,[(.int .i64),(.int .i64)],[(.n 9223372036854775808),(.n 1099511627776)],λz=>(λ(a:Int)(m:Int)=>[(0:Int)<m]) z.1 z.2,λb z=>(λ(a:Int)(m:Int)=> .c (.one (.dt (.int .i64) (.n (b1 b).nb) (a%m)))) z.1 z.2⟩
theorem q1f:q1e.OK Tryz.prog:=mkF hmix 14 Tryz.func23 rfl rfl (by decide) [] (λ(a:Int)(m:Int) b hx hp=>qx (Ui (hp _ q5f) (Bnds.h2 hx).2.int) rfl) (λ(a:Int)(m:Int) hx hp=>by
 have hx0:Int.natAbs a<=9223372036854775808:=hx.1;have hx1:Int.natAbs m<=1099511627776:=hx.2;have hp0:(0:Int)<m:=hp _ (q5f)
 refine⟨.nil,kcast (by kernel_rfl) (I (?_:m≠0) (Sp (Int.tmod a m<0) (λh1=>(mod_a hp0 h1:(Int.tmod a m)+m=a%m)) (λh2=>(q4j hp0 h2:Int.tmod a m=a%m))))⟩<;>omega)
abbrev q1d:Ctr Tryz.prog:=FI.c q1f
abbrev Z2:FO:=⟨6,[(.sl (.int .i64))],[(.s 1048576 (.n 9223372036854775808))],λ_=>[],λk b z=> .c (.one (.loc k 0)),λb z=>(λ(l:List Int)=> .rig [.dt (.pr (.sl (.int .i64)) (.nat .i64)) (.p (b0 b) (.n 0)) ((l,0))]) z⟩
theorem Z3:Z2.OK Tryz.prog:=mkO hmix 6 5 Tryz.func6 rfl rfl (by decide) [] (λ_=>rfl) (λ_ _ _=>rfl) (λ_ _=>rfl) (λ_ _ _=>⟨rfl,rfl⟩) (λ(l:List Int) k b hx hp=>⟨⟨trivial,rfl⟩,v8 (show Bnd SD (.p (b0 b) (.n 0)) (l,0)from⟨Bnds.h1 hx,q5B _⟩)⟩) (λ(l:List Int) hx hp=>by
 refine bodyO.p (.nil) (kcast (by kernel_rfl) (q4J (rfl:(l,0)=(l,0)) (rfl:5=5))))
abbrev Z1:CtrO Tryz.prog:=FO.c Z3
abbrev YZ:FB:=⟨13,(.pr (.sl (.int .i64)) (.nat .i64)),(.p (.s 1048576 (.n 9223372036854775808)) (.n 1048576)),[(.int .i64)],[(.n 1099511627776)],λs z=>(λ(m:Int)=>[(0:Int)<m]) z,λtb b s z=>(λ(m:Int)=> .c (.one (.dt (.int .i64) (.n (b0 b).nb) (wD s m)))) z,λs z=>zP s,λtb b=> .p tb.l (.n (max tb.r.nb tb.l.len))⟩
theorem Z0:YZ.OK Tryz.prog:=mkB' hmix 35 Tryz.func13 rfl rfl (by decide) [(23,.c q1d)] (λ_=>rfl) (λ_ _=>rfl) (λ_ _ _ _=>rfl) (λ(s:List Int×Nat)(m:Int) tb b hs hx hp=>⟨qx (ZX (hp _ q5f) (Bnds.h1 hx).int) rfl,Qb hs⟩) (λ(s:List Int×Nat)(m:Int) hs hx hp=>by
 have hx0:Int.natAbs m<=1099511627776:=hx;have hp0:(0:Int)<m:=hp _ (q5f);have hsl:s.1.length<=1048576:=hs.1.1
 refine⟨.cond (.nil) (.h 4 9 (.ix s.2) (.nil)),kcast (by kernel_rfl) (Sp (s.1.length<=s.2) (λh1=>q4J ((if_pos h1).symm:s=zP s) (((if_pos h1).symm:0=wD s m))) (λh2=>I (?_:((s.2+1:Nat):Int) -1=((s.2:Nat):Int)) (I (?_:s.2<s.1.length) (I (hp0:(0:Int)<m) (q4J ((if_neg h2).symm:(s.1,s.2+1)=zP s) (((if_neg h2).symm:(s.1.getD s.2 0)%m=wD s m)))))))⟩<;>omega)
abbrev YY:CtrB Tryz.prog:=FB.c Z0
theorem nl64{x:Nat}(h:qR x 64):(limbs x).length<=2:=q5C (wM (q5A (show x<18446744073709551615+1 from h))) (by decide)
theorem nl32{x:Nat}(h:x<=4294967295):(limbs x).length<=1:=q5C (wM h) (by decide)
theorem sm_q{x:Rat}(h:qR x.num.natAbs 31/\le2 x.den 31): ¬bigQ x:=by
 have h1:x.num.natAbs<2147483648:=h.1;have h2:x.den<=2147483648:=h.2;have h3:=nl32 (x:=x.num.natAbs) (by omega)
 have h4:(denL x.den).length<=1:=by
  unfold denL;split
  .exact q5X _
  .exact nl32 (by omega)
 unfold bigQ;omega
theorem Dh{x:Rat}(h:qR x.num.natAbs 31/\le2 x.den 31):pb x=true:=(p_sm (sm_q h)).2.2
theorem q4D{x y:Rat}(h:qR x.num.natAbs 31/\le2 x.den 31)(k:qR y.num.natAbs 31/\le2 y.den 31):cy (pn x*pd y) (pn y*pd x)=0:=by
 obtain⟨h1,h2,_⟩:=p_sm (sm_q h);obtain⟨k1,k2,_⟩:=p_sm (sm_q k);rw[<-h1,<-h2,<-k1,<-k2];have a1:x.num.natAbs<=2147483648:=q5z h.1;have a2:x.den<=2147483648:=h.2;have b1:y.num.natAbs<=2147483648:=q5z k.1;have b2:y.den<=2147483648:=k.2;have c1:=q5N a1 b2;have c2:=q5N b1 a2;unfold cy;omega
abbrev q34:FI:=⟨325,[(.sl (.nat .u32))],[(.s 1099511627776 (.n 4294967295))],λz=>(λ(ls:List Nat)=>[∀u∈ls,u<4294967296]) z,λb z=>(λ(ls:List Nat)=> .c (.one (.dt .mag (.n (32*(b0 b).len)) (qe ls)))) z⟩
theorem VB:q34.OK Tryz.prog:=mkF hmix 21 Tryz.func325 rfl rfl (by decide) [] (λ(ls:List Nat) b hx hp=>qx (EJ (hp _ (q5f)) (Bnds.h1 hx).sl.1) rfl) (λ(ls:List Nat) hx hp=>by
 have hl0:ls.length<=1099511627776:=hx.1;have hp0: ∀u∈ls,u<4294967296:=hp _ (q5f)
 refine⟨.loop [.s 3 (.nat .i64) (.n 1099511627776)] (λ(k:Nat)=>k<=ls.length/\qe (ls.take k)=qe ls) (λ(k:Nat)=>k) (λ(k:Nat)=> .cond (.h 2 5 (.i .sub) (.cond (.h 3 1 (.i .sub) (.nil)) (.h 4 2 (.mag (qe ls) 70368744177664) (.nil)))) (.h 4 2 (.mag (qe ls) 70368744177664) (.nil))),kcast (by kernel_rfl) (I (⟨q5B _,by rw[q5n]⟩:ls.length<=ls.length/\qe (ls.take ls.length)=qe ls) (λ(k:Nat)(hb1:HB [.s 3 (.nat .i64) (.n 1099511627776)] k)(hC:k<=ls.length/\qe (ls.take k)=qe ls)=>have hv6:=(show k<=1099511627776 from hb1);have hk:=hC.1;Sp (0<k) (λh2=>I (?_:1<=k) (I (?_:k-1<ls.length) (Sp (ls.getD (k-1) 0=0) (λh3=>I (?_:1<=k) (q4J (⟨by omega,LE hC.1 (by omega) hC.2 (by omega)⟩:k-1<=ls.length/\qe (ls.take (k-1))=qe ls) (?_:k-1<k))) (λh4=>I (?_:k<=ls.length) (I (Bf hp0 hC.1 hC.2 (by omega):ls.take k=limbs (qe ls)) (I (qr (by decide) (EJ hp0 hl0):qR (qe ls) 70368744177664) ((Eq.refl (qe ls))))))))) (λh5=>I (?_:k<=ls.length) (I (Bf hp0 hC.1 hC.2 (by omega):ls.take k=limbs (qe ls)) (I (qr (by decide) (EJ hp0 hl0):qR (qe ls) 70368744177664) ((Eq.refl (qe ls))))))))⟩<;>omega)
abbrev VA:Ctr Tryz.prog:=FI.c VB
abbrev Vz(b:List Bd)(ls:List Nat):WV:= .c (.one (.dt .mag (.n (32*(b0 b).len)) (qe ls)))
theorem XE(ls:List Nat)(hx:Bnds [(.sl (.nat .u32))] [(.s 1099511627776 (.n 4294967295))] ls)(hp: ∀c0∈([∀u∈ls,u<4294967296]:List Prop),c0):Sig Tryz.prog 325 (argsE [(.sl (.nat .u32))] ls) (Vz [(.s 1099511627776 (.n 4294967295))] ls).exp:=VB.sig ls hx hp
theorem XD(b:List Bd)(x:Nat)(hx:Bnds [.mag] b x)(hp: ∀p∈([]:List Prop),p):(WV.c (.one (.dt .mag (b0 b) x))).ok:=qx (Bnds.h1 hx) rfl
theorem LB(x:Nat)(hx:Bnds [.mag] [.n 1099511627776] x)(hp: ∀p∈([]:List Prop),p):Sig Tryz.prog 325 (argsE [.mag] x) (WV.c (.one (.dt .mag (.n 1099511627776) x))).exp:=by
 have h:=XE (limbs x) ⟨q5C (qE (q5z hx)) (by decide),(Bnd.limbs hx).2⟩ (by intro p hp;simp only[q5d,q5l,or_false]at hp;subst hp;exact vr x);unfold Vz at h;rw[j8,<-Fd]at h;exact h
def QN:Ctr Tryz.prog:=⟨325,[.mag],[.n 1099511627776],λz=>[],λb z=> .c (.one (.dt .mag (b0 b) z)),λz hx hp=>LB z hx hp,λ_ _=>rfl,λb z hx hp=>XD b z hx hp⟩
abbrev q3W:FI:=⟨303,[.mag,.mag],[(.n 1099511627776),(.n 1099511627776)],λ_=>[],λb z=>(λ(x:Nat)(y:Nat)=> .c (.one (.dt (.int .i64) (.n 1) (j9 x y)))) z.1 z.2⟩
theorem q3X:q3W.OK Tryz.prog:=mkF hmix 45 Tryz.func303 rfl rfl (by decide) [(325,.c QN)] (λ(x:Nat)(y:Nat) b hx hp=>qx (Pp x y) rfl) (λ(x:Nat)(y:Nat) hx hp=>by
 have hx0:qR x 1099511627776:=hx.1;have hl0:(limbs x).length<=34359738369:=qE (q5z hx0);have hx1:qR y 1099511627776:=hx.2;have hl1:(limbs y).length<=34359738369:=qE (q5z hx1)
 refine⟨.cond (.nil) (.loop [.s 5 (.int .i64) (.n 68719476736)] (λ(z:Int)=>CmpI x y z) (λ(z:Int)=>(z+1).toNat) (λ(z:Int)=> .cond (.h 9 2 (.ix z.toNat) (.h 9 6 (.ix z.toNat) (.cond (.h 10 2 (.ix z.toNat) (.h 10 6 (.ix z.toNat) (.nil))) (.nil)))) (.nil))),kcast (by kernel_rfl) (Sp ((limbs x).length≠(limbs y).length) (λh1=>Sp ((limbs x).length<(limbs y).length) (λh2=>(?_:(-1)=j9 x y)) (λh3=>(?_:1=j9 x y))) (λh4=>I (CmpI.start (by omega):CmpI x y ((((limbs x).length:Nat):Int) -1)) (λ(z:Int)(hb5:HB [.s 5 (.int .i64) (.n 68719476736)] z)(hC:CmpI x y z)=>have hv12:=(show Int.natAbs z<=68719476736 from hb5);have hC0:=hC.h0;have hC1:=hC.h1;Sp (0<=z) (λh6=>I (?_:z=((z.toNat:Nat):Int)) (I (?_:z.toNat<(limbs x).length) (I (?_:z=((z.toNat:Nat):Int)) (I (?_:z.toNat<(limbs y).length) (Sp ((limbs x).getD z.toNat 0≠(limbs y).getD z.toNat 0) (λh7=>I (?_:z=((z.toNat:Nat):Int)) (I (?_:z.toNat<(limbs x).length) (I (?_:z=((z.toNat:Nat):Int)) (I (?_:z.toNat<(limbs y).length) (Sp ((limbs x).getD z.toNat 0<(limbs y).getD z.toNat 0) (λh8=>(?_:(-1)=j9 x y)) (λh9=>(?_:1=j9 x y))))))) (λh10=>I (show Int.natAbs (z-1)<=68719476736 by omega:Bnd (.int .i64) (.n 68719476736) (z-1)) (q4J ((hC.at (by omega) (by omega)).1 (by omega):CmpI x y (z-1)) (?_:((z-1)+1).toNat<(z+1).toNat)))))))) (λh11=>((hC.fin (by omega)).symm:0=j9 x y)))))⟩<;>first|omega|(first|exact(MR (by omega)).symm|exact((hC.at (by omega) (by omega)).2.1 (by omega)).symm)|(first|exact(MT (by omega)).symm|exact((hC.at (by omega) (by omega)).2.2 (by omega)).symm))
abbrev q3V:Ctr Tryz.prog:=FI.c q3X
abbrev q0x:FI:=⟨326,[.mag,(.nat .u32)],[(.n 1099511627776),(.n 4294967295)],λz=>(λ(x:Nat)(u:Nat)=>[0<u]) z.1 z.2,λb z=>(λ(x:Nat)(u:Nat)=> .tup [.one (.dt .mag (b0 b) (x/u)),.one (.dt (.nat .u32) (b1 b) (x%u))]) z.1 z.2⟩
theorem q0y:q0x.OK Tryz.prog:=mkF hmix 43 Tryz.func326 rfl rfl (by decide) [] (λ(x:Nat)(u:Nat) b hx hp=>je (qx ((Bnds.h2 hx).1.magLe (q5u _ _)) rfl) (je (qx ((Bnds.h2 hx).2.natLe (q5z (q5I _ (hp _ (q5f))))) rfl) zx)) (λ(x:Nat)(u:Nat) hx hp=>by
 have hx0:qR x 1099511627776:=hx.1;have hl0:(limbs x).length<=34359738369:=qE (q5z hx0);have hx1:u<=4294967295:=hx.2;have hp0:0<u:=hp _ (q5f)
 refine⟨.h 1 2 (.mk (.arr (.nat .u32) (.n 4294967295))) (.loop [.s 8 (.int .i64) (.n 34359738370),.s 7 (.nat .u64) (.n 4294967295),.a 11 (.nat .u32) (.n 4294967295)] (λ((z,r,out):Int×Nat×List Nat)=>SmallZ x u z r out) (λ((z,r,out):Int×Nat×List Nat)=>(z+1).toNat) (λ((z,r,out):Int×Nat×List Nat)=> .cond (.h 6 4 (.ix z.toNat) (.h 6 7 (.i (.n ((r*2^32)+((limbs x).getD z.toNat 0)) 18446744073709551615)) (.h 7 7 (.ix z.toNat) (.nil)))) (.pre 9 (.frz 11 true [6,7]) (.h 9 1 (.c VA) (.nil))))),kcast (by kernel_rfl) (I (?_:(limbs x).length=(limbs x).length) (I (SmallZ.start hp0:SmallZ x u ((((limbs x).length:Nat):Int) -1) 0 (List.replicate ((limbs x).length) (0:Nat))) (λ(z:Int)(r:Nat)(out:List Nat)(hb1:HB [.s 8 (.int .i64) (.n 34359738370),.s 7 (.nat .u64) (.n 4294967295),.a 11 (.nat .u32) (.n 4294967295)] (z,r,out))(hI:SmallZ x u z r out)=>have hv4:=(show Int.natAbs z<=34359738370 from hb1.1);have hv5:=(show r<=4294967295 from hb1.2.1);have hv6:=(show∀u∈out,u<=4294967295 from hb1.2.2);have hB:=hI.b;Sp (0<=z) (λh2=>I (?_:z=((z.toNat:Nat):Int)) (I (?_:z.toNat<(limbs x).length) (I (R5 _ 32 rfl (qz _ _) (by have:=qz x z.toNat;omega):wA .or .u64 ((r*2^32:Nat):Int) (((limbs x).getD z.toNat 0:Nat):Int) (((r*2^32)+((limbs x).getD z.toNat 0):Nat):Int)) (I (by have:=qz x z.toNat;omega:(r*2^32)+((limbs x).getD z.toNat 0)<=18446744073709551615) (I (?_:0<u) (I (?_:z=((z.toNat:Nat):Int)) (I (?_:z.toNat<(limbs x).length) (I (?_:z.toNat<out.length) (I (?_:0<u) (I (show Int.natAbs (z-1)<=34359738370 by omega:Bnd (.int .i64) (.n 34359738370) (z-1)) (q4J (hI.step (by omega) rfl:SmallZ x u (z-1) (((r*2^32)+((limbs x).getD z.toNat 0))%u) (out.set z.toNat ((((r*2^32)+((limbs x).getD z.toNat 0))/u)%4294967296))) (?_:((z-1)+1).toNat<(z+1).toNat)))))))))))) (λh3=>I (?_:(limbs x).length=out.length) (have hF:=hI.fin (by omega);I (hF.2.2: ∀u∈out,u<4294967296) (q4J (hF.1:qe out=x/u) (hF.2.1:r=x%u)))))))⟩<;>omega)
abbrev q0p:FI:=⟨320,[.mag],[(.n 1099511627776)],λz=>(λ(x:Nat)=>[(limbs x).length<=2]) z,λb z=>(λ(x:Nat)=> .c (.one (.dt (.nat .u64) (.n 18446744073709551615) x))) z⟩
theorem q0q:q0p.OK Tryz.prog:=mkF hmix 21 Tryz.func320 rfl rfl (by decide) [] (λ(x:Nat) b hx hp=>qx (q5A (Um (hp _ (q5f)))) rfl) (λ(x:Nat) hx hp=>by
 have hx0:qR x 1099511627776:=hx;have hl0:(limbs x).length<=34359738369:=qE (q5z hx0);have hp0:(limbs x).length<=2:=hp _ (q5f)
 refine⟨.loop [.s 4 (.int .i64) (.n 68719476736),.s 3 (.nat .u64) (.n 18446744073709551615)] (λ((z,v):Int×Nat)=>WordZ x z v) (λ((z,v):Int×Nat)=>(z+1).toNat) (λ((z,v):Int×Nat)=> .cond (.h 5 1 (.i (.n (v*2^32) 18446744073709551615)) (.h 5 4 (.ix z.toNat) (.h 5 7 (.i (.n ((v*2^32)+((limbs x).getD z.toNat 0)) 18446744073709551615)) (.nil)))) (.nil)),kcast (by kernel_rfl) (I (WordZ.start x:WordZ x ((((limbs x).length:Nat):Int) -1) 0) (λ(z:Int)(v:Nat)(hb1:HB [.s 4 (.int .i64) (.n 68719476736),.s 3 (.nat .u64) (.n 18446744073709551615)] (z,v))(hI:WordZ x z v)=>have hv4:=(show Int.natAbs z<=68719476736 from hb1.1);have hv5:=(show v<=18446744073709551615 from hb1.2);have hB0:=hI.h0;have hB1:=hI.h1;Sp (0<=z) (λh2=>have hw:=hI.lt hp0 (by omega);I (q0Z v 32 (by omega) (by omega):wA .shl .u64 (v:Int) 32 ((v*2^32:Nat):Int)) (I (?_:v*2^32<=18446744073709551615) (I (?_:z=((z.toNat:Nat):Int)) (I (?_:z.toNat<(limbs x).length) (I (R5 _ 32 rfl (qz _ _) (by have:=qz x z.toNat;omega):wA .or .u64 ((v*2^32:Nat):Int) (((limbs x).getD z.toNat 0:Nat):Int) (((v*2^32)+((limbs x).getD z.toNat 0):Nat):Int)) (I (by have:=qz x z.toNat;omega:(v*2^32)+((limbs x).getD z.toNat 0)<=18446744073709551615) (I (show Int.natAbs (z-1)<=68719476736 by omega:Bnd (.int .i64) (.n 68719476736) (z-1)) (q4J (hI.step (by omega):WordZ x (z-1) ((v*2^32)+((limbs x).getD z.toNat 0))) (?_:((z-1)+1).toNat<(z+1).toNat))))))))) (λh3=>(hI.fin (by omega):v=x))))⟩<;>omega)
abbrev QC:Ctr Tryz.prog:=FI.c q0q
abbrev of_i:FI:=⟨324,[(.nat .u64)],[(.n 18446744073709551615)],λ_=>[],λb z=>(λ(x:Nat)=> .c (.one (.dt .mag (.n (Nat.log2 (b0 b).nb+1)) (x)))) z⟩
theorem of_k:of_i.OK Tryz.prog:=mkF hmix 10 Tryz.func324 rfl rfl (by decide) [] (λ(x:Nat) b hx hp=>qx (q5D (Bnds.h1 hx).nat Nat.lt_log2_self) rfl) (λ(x:Nat) hx hp=>by
 have hx0:x<=18446744073709551615:=hx
 refine⟨.h 1 5 (.mk (.im (.nat .u32) (.n 4294967295))) (.h 1 6 (.c VA) (.nil)),kcast (by kernel_rfl) (I (by intro u hu;simp only[q5d,q5l,or_false]at hu;omega: ∀u∈[x%4294967296,x/2^32],u<4294967296) ((by simp only[qe];omega:qe [x%4294967296,x/2^32]=x)))⟩)
abbrev of_c:Ctr Tryz.prog:=FI.c of_k
def tab8:ByteArray:=⟨#[0,1,2,2,3,3,3,3,4,4,4,4,4,4,4,4,5,5,5,5,5,5,5,5,5,5,5,5,5,5,5,5,6,6,6,6,6,6,6,6,6,6,6,6,6,6,6,6,6,6,6,6,6,6,6,6,6,6,6,6,6,6,6,6,7,7,7,7,7,7,7,7,7,7,7,7,7,7,7,7,7,7,7,7,7,7,7,7,7,7,7,7,7,7,7,7,7,7,7,7,7,7,7,7,7,7,7,7,7,7,7,7,7,7,7,7,7,7,7,7,7,7,7,7,7,7,7,7,8,8,8,8,8,8,8,8,8,8,8,8,8,8,8,8,8,8,8,8,8,8,8,8,8,8,8,8,8,8,8,8,8,8,8,8,8,8,8,8,8,8,8,8,8,8,8,8,8,8,8,8,8,8,8,8,8,8,8,8,8,8,8,8,8,8,8,8,8,8,8,8,8,8,8,8,8,8,8,8,8,8,8,8,8,8,8,8,8,8,8,8,8,8,8,8,8,8,8,8,8,8,8,8,8,8,8,8,8,8,8,8,8,8,8,8,8,8,8,8,8,8,8,8,8,8,8,8]⟩
abbrev YQ:FO:=⟨269,[(.sl (.nat .u32))],[(.s 1099511627776 (.n 4294967295))],λ_=>[],λk b z=>(λ(ls:List Nat)=> .c (.one (.gs k (ls.length) 1 ((b0 b).len)))) z,λb z=>(λ(ls:List Nat)=> .gro (.nat .u32) ((b0 b).e) (ls)) z⟩
theorem YR:YQ.OK Tryz.prog:=mkO hmix 8 7 Tryz.func269 rfl rfl (by decide) [] (λ_=>rfl) (λ_ _ _=>rfl) (λ_ _=>rfl) (λ_ _ _=>⟨rfl,rfl⟩) (λ(ls:List Nat) k b hx hp=>⟨qx (Bnds.h1 hx).sl.1 rfl,(Bnds.h1 hx).sl.2⟩) (λ(ls:List Nat) hx hp=>by
 have hl0:ls.length<=1099511627776:=hx.1
 refine bodyO.g (.cond (.nil) (.h 3 0 (.mk (.gro (.nat .u32) (.n 4294967295))) (.nil))) (kcast (by kernel_rfl) (q4J (λ(h1:ls=[])=>q4J (h1.symm:([]:List Nat)=ls) ((by rw[h1];rfl:0=ls.length))) (I (rfl:0=([]:List Nat).length) (q4J (rfl:([]:List Nat)++ls=ls) ((?_:0+ls.length=ls.length))))))<;>omega)
abbrev YP(k:Nat)(b:List Bd)(ls:List Nat):WV:= .c (.one (.gs k (ls.length) 1 ((b0 b).len)))
abbrev YO(b:List Bd)(ls:List Nat):WB:= .gro (.nat .u32) ((b0 b).e) (ls)
theorem Tf(d:Nat)(ls:List Nat)(hx:Bnds [(.sl (.nat .u32))] [(.s 1099511627776 (.n 4294967295))] ls)(hp: ∀c0∈([]:List Prop),c0):SigG Tryz.prog 269 (argsE [(.sl (.nat .u32))] ls) [] (YP d [(.s 1099511627776 (.n 4294967295))] ls).exp [(d,some (YO [(.s 1099511627776 (.n 4294967295))] ls).exp)]:=YR.sig d ls hx hp
def Cn:Ctr Tryz.prog:=⟨269,[.sl (.nat .u32)],[.s 1099511627776 (.n 4294967295)],λz=>[],λb z=> .c (.one (.dt (.sl (.nat .u32)) (b0 b) z)),λz hx hp=>frzO (Tf 0 z hx hp) (by decide) rfl _,λ_ _=>rfl,λb z hx hp=>qx (Bnds.h1 hx) rfl⟩
theorem R9(x:Nat)(hx:Bnds [.mag] [.n 1099511627776] x):Sig Tryz.prog 269 (argsE [.mag] x) (WV.c (.one (.dt .mag (.n 1099511627776) x))).exp:=by
 have h:=Cn.sig (limbs x) ⟨q5C (qE (q5z hx)) (by decide),(Bnd.limbs hx).2⟩ (by intro p hp;cases hp);have e:(Cn.res Cn.bs (limbs x)).exp=(WV.c (.one (.dt .mag (.n 1099511627776) x))).exp:=magE x _ _;rw[e]at h;rw[Fd];exact h
def MP:Ctr Tryz.prog:=⟨269,[.mag],[.n 1099511627776],λz=>[],λb z=> .c (.one (.dt .mag (b0 b) z)),λz hx hp=>R9 z hx,λ_ _=>rfl,λb z hx hp=>qx (Bnds.h1 hx) rfl⟩
theorem bl_8{x:Nat}(h:x<256):bl x<=8:=by
 have h1:=XT x;rcases q5x x with e|e
 .subst e;decide
 .have h2:=R6 (n:=x) (by omega)
  apply q5A;apply Nat.lt_of_not_le;intro h3;have:=q5S (show 0<2 by omega) (show 8<=bl x-1 by omega);omega
abbrev ZA:FI:=⟨53,[(.nat .u32)],[(.n 4294967295)],λ_=>[],λb z=>(λ(x:Nat)=> .c (.one (.dt (.nat .i64) (.n (Nat.log2 (b0 b).nb+1)) (bl x)))) z⟩
theorem ZB:ZA.OK Tryz.prog:=mkF hmix 19 Tryz.func53 rfl rfl (by decide) [] (λ(x:Nat) b hx hp=>qx (q12 (Bnds.h1 hx).nat) rfl) (λ(x:Nat) hx hp=>by
 have hx0:x<=4294967295:=hx;have h1:65536<=x->bl x=bl (x/2^16)+16:=λh=>Ee (k:=16) h
 have h2:256<=x/2^16->bl (x/2^16)=bl (x/2^16/2^8)+8:=λh=>Ee (k:=8) h
 have h3:256<=x->bl x=bl (x/2^8)+8:=λh=>Ee (k:=8) h
 refine⟨.cond (.cond (.h 7 2 (.i (.n (((x/2^16)/2^8)%256) 255)) (.h 7 3 (.any [.c (.one (.vl (.string tab8))),.c (.one (.dt (.nat .u8) (.n 255) (((x/2^16)/2^8)%256)))] (.c (.one (.dt (.nat .u8) (.n 8) (bl (((x/2^16)/2^8)%256))))) (qx (bl_8 (q5I _ (by decide))) rfl) (Op.index 9 (.const (.string tab8)) (.tmp 15)) (λ_=>Gu (j:=(((x/2^16)/2^8)%256)) (by kernel_rfl) rfl (q5I _ (by decide)) (by kernel_rfl))) (.nil))) (.h 7 2 (.i (.n ((x/2^16)%256) 255)) (.h 7 3 (.any [.c (.one (.vl (.string tab8))),.c (.one (.dt (.nat .u8) (.n 255) ((x/2^16)%256)))] (.c (.one (.dt (.nat .u8) (.n 8) (bl ((x/2^16)%256))))) (qx (bl_8 (q5I _ (by decide))) rfl) (Op.index 9 (.const (.string tab8)) (.tmp 15)) (λ_=>Gu (j:=((x/2^16)%256)) (by kernel_rfl) rfl (q5I _ (by decide)) (by kernel_rfl))) (.nil)))) (.cond (.h 7 2 (.i (.n ((x/2^8)%256) 255)) (.h 7 3 (.any [.c (.one (.vl (.string tab8))),.c (.one (.dt (.nat .u8) (.n 255) ((x/2^8)%256)))] (.c (.one (.dt (.nat .u8) (.n 8) (bl ((x/2^8)%256))))) (qx (bl_8 (q5I _ (by decide))) rfl) (Op.index 9 (.const (.string tab8)) (.tmp 15)) (λ_=>Gu (j:=((x/2^8)%256)) (by kernel_rfl) rfl (q5I _ (by decide)) (by kernel_rfl))) (.nil))) (.h 7 2 (.i (.n (x%256) 255)) (.h 7 3 (.any [.c (.one (.vl (.string tab8))),.c (.one (.dt (.nat .u8) (.n 255) (x%256)))] (.c (.one (.dt (.nat .u8) (.n 8) (bl (x%256))))) (qx (bl_8 (q5I _ (by decide))) rfl) (Op.index 9 (.const (.string tab8)) (.tmp 15)) (λ_=>Gu (j:=(x%256)) (by kernel_rfl) rfl (q5I _ (by decide)) (by kernel_rfl))) (.nil)))),kcast (by kernel_rfl) (Sp (65536<=x) (λh1=>Sp (256<=x/2^16) (λh2=>I (IR _:IntKind.wrap .u8 (((x/2^16)/2^8:Nat):Int)=((((x/2^16)/2^8)%256:Nat):Int)) (I (?_:((x/2^16)/2^8)%256<=255) (I (rfl:([.c (.one (.vl (.string tab8))),.c (.one (.dt (.nat .u8) (.n 255) (((x/2^16)/2^8)%256)))]:List WV)=[.c (.one (.vl (.string tab8))),.c (.one (.dt (.nat .u8) (.n 255) (((x/2^16)/2^8)%256)))]) (I (rfl:(Op.index 9 (.const (.string tab8)) (.tmp 15):Op)=Op.index 9 (.const (.string tab8)) (.tmp 15)) ((by rw[q5H (show((x/2^16)/2^8)<256 by omega)];omega:24+(bl (((x/2^16)/2^8)%256))=bl x)))))) (λh3=>I (IR _:IntKind.wrap .u8 ((x/2^16:Nat):Int)=(((x/2^16)%256:Nat):Int)) (I (?_:(x/2^16)%256<=255) (I (rfl:([.c (.one (.vl (.string tab8))),.c (.one (.dt (.nat .u8) (.n 255) ((x/2^16)%256)))]:List WV)=[.c (.one (.vl (.string tab8))),.c (.one (.dt (.nat .u8) (.n 255) ((x/2^16)%256)))]) (I (rfl:(Op.index 9 (.const (.string tab8)) (.tmp 15):Op)=Op.index 9 (.const (.string tab8)) (.tmp 15)) ((by rw[q5H (show(x/2^16)<256 by omega)];omega:16+(bl ((x/2^16)%256))=bl x))))))) (λh4=>Sp (256<=x) (λh5=>I (IR _:IntKind.wrap .u8 ((x/2^8:Nat):Int)=(((x/2^8)%256:Nat):Int)) (I (?_:(x/2^8)%256<=255) (I (rfl:([.c (.one (.vl (.string tab8))),.c (.one (.dt (.nat .u8) (.n 255) ((x/2^8)%256)))]:List WV)=[.c (.one (.vl (.string tab8))),.c (.one (.dt (.nat .u8) (.n 255) ((x/2^8)%256)))]) (I (rfl:(Op.index 9 (.const (.string tab8)) (.tmp 15):Op)=Op.index 9 (.const (.string tab8)) (.tmp 15)) ((by rw[q5H (show(x/2^8)<256 by omega)];omega:8+(bl ((x/2^8)%256))=bl x)))))) (λh6=>I (IR _:IntKind.wrap .u8 (x:Int)=((x%256:Nat):Int)) (I (?_:x%256<=255) (I (rfl:([.c (.one (.vl (.string tab8))),.c (.one (.dt (.nat .u8) (.n 255) (x%256)))]:List WV)=[.c (.one (.vl (.string tab8))),.c (.one (.dt (.nat .u8) (.n 255) (x%256)))]) (I (rfl:(Op.index 9 (.const (.string tab8)) (.tmp 15):Op)=Op.index 9 (.const (.string tab8)) (.tmp 15)) ((by rw[q5H (show x<256 by omega)];omega:0+(bl (x%256))=bl x))))))))⟩<;>omega)
abbrev Zz:Ctr Tryz.prog:=FI.c ZB
abbrev q10:FI:=⟨266,[.mag],[(.n 1099511627776)],λ_=>[],λb z=>(λ(x:Nat)=> .c (.one (.dt (.nat .i64) (b0 b) (bl x)))) z⟩
theorem q11:q10.OK Tryz.prog:=mkF hmix 20 Tryz.func266 rfl rfl (by decide) [(53,.c Zz),(325,.c QN)] (λ(x:Nat) b hx hp=>qx (q13 (Bnds.h1 hx)) rfl) (λ(x:Nat) hx hp=>by
 have hx0:qR x 1099511627776:=hx;have hl0:(limbs x).length<=34359738369:=qE (q5z hx0)
 refine⟨.cond (.nil) (.h 4 2 (.i .sub) (.h 4 7 (.i .sub) (.nil))),kcast (by kernel_rfl) (Sp ((limbs x).length=0) (λh1=>(by have:=(nl0 (x:=x)).1 (by omega);subst this;rfl:0=bl x)) (λh2=>have hpos:=(show 0<(limbs x).length by omega);have hBB:=YI hpos;I (?_:1<=(limbs x).length) (I (?_:1<=(limbs x).length) (I (?_:((limbs x).length) -1<(limbs x).length) ((?_:(32*(((limbs x).length) -1))+(bl ((limbs x).getD (((limbs x).length) -1) 0))=bl x))))))⟩<;>omega)
abbrev T8:Ctr Tryz.prog:=FI.c q11
abbrev q2P:FI:=⟨267,[],[],λ_=>[],λb z=> .c (.one (.dt .mag (.n (1)) (1)))⟩
theorem q2Q:q2P.OK Tryz.prog:=mkF hmix 2 Tryz.func267 rfl rfl (by decide) [] (λ b hx hp=>qx (K8 rfl) rfl) (λ hx hp=>by
 refine⟨.h 1 0 (.mk (.im (.nat .u32) (.n 4294967295))) (.h 1 1 (.mag 1 1) (.nil)),kcast (by kernel_rfl) (I (D4.symm:[1]=limbs 1) (I (K8 rfl:qR 1 1) ((Eq.refl 1))))⟩)
abbrev UP:Ctr Tryz.prog:=FI.c q2Q
abbrev q0k:FI:=⟨262,[(.int .i64)],[(.n 9223372036854775807)],λ_=>[],λb z=>(λ(v:Int)=> .c (.one (.dt .mag (.n (Nat.log2 (b0 b).nb+1)) (v.natAbs)))) z⟩
theorem q0l:q0k.OK Tryz.prog:=mkF hmix 12 Tryz.func262 rfl rfl (by decide) [(324,.c of_c)] (λ(v:Int) b hx hp=>qx (AD (Bnds.h1 hx).int) rfl) (λ(v:Int) hx hp=>by
 have hx0:Int.natAbs v<=9223372036854775807:=hx
 refine⟨.cond (.dead) (.h 3 4 (.i (.n v.natAbs 9223372036854775807)) (.nil)),kcast (by kernel_rfl) (Sp (v=(-9223372036854775808)) (λh1=>(?_:False)) (λh2=>I (by rw[show max v (-v)=((v.natAbs:Nat):Int) by omega];exact BK (by omega):IntKind.wrap .u64 (max v (-v))=((v.natAbs:Nat):Int)) (I (?_:v.natAbs<=9223372036854775807) ((Eq.refl v.natAbs)))))⟩<;>omega)
abbrev QA:Ctr Tryz.prog:=FI.c q0l
abbrev q2E:FI:=⟨345,[(.nat .u64),(.nat .u64)],[(.n 18446744073709551615),(.n 18446744073709551615)],λ_=>[],λb z=>(λ(n:Nat)(d:Nat)=> .c (.one (.dt (.nat .u64) (.n (max (b0 b).nb (b1 b).nb)) (Nat.gcd n d)))) z.1 z.2⟩
theorem q2F:q2E.OK Tryz.prog:=mkF hmix 12 Tryz.func345 rfl rfl (by decide) [] (λ(n:Nat)(d:Nat) b hx hp=>qx (Ze (Bnds.h2 hx).1.nat (Bnds.h2 hx).2.nat) rfl) (λ(n:Nat)(d:Nat) hx hp=>by
 have hx0:n<=18446744073709551615:=hx.1;have hx1:d<=18446744073709551615:=hx.2
 refine⟨.loop [.s 0 (.nat .u64) (.n 18446744073709551615),.s 1 (.nat .u64) (.n 18446744073709551615)] (λ((u,v):Nat×Nat)=>Nat.gcd u v=Nat.gcd n d) (λ((u,v):Nat×Nat)=>v) (λ((u,v):Nat×Nat)=> .nil),kcast (by kernel_rfl) (I (rfl:Nat.gcd n d=Nat.gcd n d) (λ(u:Nat)(v:Nat)(hb1:HB [.s 0 (.nat .u64) (.n 18446744073709551615),.s 1 (.nat .u64) (.n 18446744073709551615)] (u,v))(hK:Nat.gcd u v=Nat.gcd n d)=>have hv4:=(show u<=18446744073709551615 from hb1.1);have hv5:=(show v<=18446744073709551615 from hb1.2);Sp (v≠0) (λh2=>I (?_:0<v) (q4J ((Nb u v).trans hK:Nat.gcd v (u%v)=Nat.gcd n d) (q5I _ (by omega):u%v<v))) (λh3=>(by rw[show v=0 by omega,Nat.gcd_zero_right]at hK;exact hK:u=Nat.gcd n d))))⟩<;>omega)
abbrev q2D:Ctr Tryz.prog:=FI.c q2F
abbrev Xm:FV:=⟨346,false,(.nat .u32),(.n 4294967295),1099511627776,[(.nat .u64)],[(.n 18446744073709551615)],λl lo n cap z=>(λ(v:Nat)=>[2<=n,lo+2<=l.length,v<=18446744073709551615]) z,λk b l lo n cap z=>(λ(v:Nat)=> .c (.one (.dt (.nat .i64) (.n 2) (nlw v)))) z,λl lo n cap z=>(λ(v:Nat)=>vk l lo v) z⟩
theorem Xn:Xm.OK Tryz.prog:=mkSl hmix 17 Tryz.func346 rfl rfl (by decide) [] (λ_=>rfl) (λ_ _ _ _ _=>rfl) (λ_ _ _ _ _ _ _=>rfl) (λ_ _ _ _ _ _=>rfl) (λ(l:List Nat)(lo n cap:Nat)(v:Nat) k b hx hs hn(hm:n<=1099511627776) hp=>⟨qx (NG v).2 rfl,Xb (hp _ (q5e _ (q5e _ q5f))) hs⟩) (λ(l:List Nat)(lo n cap:Nat)(v:Nat) hs hx hn(hm:n<=1099511627776) hp=>by
 have hx0:v<=18446744073709551615:=hx;have hp0:2<=n:=hp _ (q5f);have hp1:lo+2<=l.length:=hp _ (q5e _ (q5f));have hp2:v<=18446744073709551615:=hp _ (q5e _ (q5e _ (q5f)))
 refine⟨.nil,kcast (by kernel_rfl) (I (?_:0<n) (I (?_:lo+0<l.length) (Sp (v/2^32=0) (λh1=>q4J (by rw[vk,if_pos (by assumption)]:l.set (lo+0) (v%4294967296)=vk l lo v) ((by rw[nlw,if_pos (by assumption)]:1=nlw v))) (λh2=>I (?_:1<n) (I (by simp only[List.length_set];omega:lo+1<(l.set (lo+0) (v%4294967296)).length) (q4J (by rw[vk,if_neg (by assumption)]:(l.set (lo+0) (v%4294967296)).set (lo+1) (v/2^32)=vk l lo v) ((by rw[nlw,if_neg (by assumption)]:2=nlw v))))))))⟩<;>omega)
abbrev Xl:CtrS Tryz.prog:=FV.c Xn
abbrev q0u:FI:=⟨298,[.bool,(.nat .u64),(.nat .u64)],[.u,(.n 18446744073709551615),(.n 18446744073709551615)],λz=>(λ(neg:Bool)(n:Nat)(d:Nat)=>[0<d]) z.1 z.2.1 z.2.2,λb z=>(λ(neg:Bool)(n:Nat)(d:Nat)=> .c (.agg [.dt .rat (.n (max (Nat.log2 (b1 b).nb+1) (Nat.log2 (b2 b).nb+1))) (qw neg n d)])) z.1 z.2.1 z.2.2⟩
theorem q0v:q0u.OK Tryz.prog:=mkF hmix 50 Tryz.func298 rfl rfl (by decide) [(345,.c q2D),(346,.s Xl)] (λ(neg:Bool)(n:Nat)(d:Nat) b hx hp=>jH (jr (qr (Nat.le_max_left _ _) (AD (Bnds.h3 hx).2.1.nat)) (jI (qr (Nat.le_max_right _ _) (AD (Bnds.h3 hx).2.2.nat))) (hp _ q5f))) (λ(neg:Bool)(n:Nat)(d:Nat) hx hp=>by
 have hx1:n<=18446744073709551615:=hx.2.1;have hx2:d<=18446744073709551615:=hx.2.2;have hp0:0<d:=hp _ (q5f)
 refine⟨.cond (.nil) ((λ(g:Nat)=>(λ(n1:Nat)=>(λ(d1:Nat)=> .h 5 0 (.mk (.arr (.nat .u32) (.n 4294967295))) ((λ(a:Nat)=> .cond ((λ(b:Nat)=> .pre 11 (.frz 24 false []) (.h 11 0 (.rat (qw neg n d) 64) (.nil))) (a+(nlw d1))) (.pre 11 (.frz 24 false []) (.h 11 0 (.rat (qw neg n d) 64) (.nil)))) (nlw n1))) (d/g)) (n/g)) (Nat.gcd n d)),kcast (by kernel_rfl) (q4J (λ(h1:n=0)=>(by rw[show n=0 by omega,Be]:0=qw neg n d)) (λ(h2: ¬(n=0))=>(λ(g:Nat)(hg:g=Nat.gcd n d)=>have hg0:=(show 0<g from hg▸Nat.gcd_pos_of_pos_right _ hp0);I (by omega:0<g) (I (by omega:0<g) ((λ(n1:Nat)(hn1:n1=n/g)=>(λ(d1:Nat)(hd1:d1=d/g)=>have hn0:=(show 0<n1 from by rw[hn1,hg];exact Nat.div_pos (Nat.gcd_le_left _ (by omega)) (hg▸hg0));have hd0:=(show 0<d1 from by rw[hd1,hg];exact Nat.div_pos (Nat.gcd_le_right _ (by omega)) (hg▸hg0));have hn9:=(show n1<=18446744073709551615 from by rw[hn1];exact q5C (q5u _ _) hx1);have hd9:=(show d1<=18446744073709551615 from by rw[hd1];exact q5C (q5u _ _) hx2);I (by omega:2<=4) (I (by simp:0+2<=(List.replicate 4 (0:Nat)).length) (I (by omega:n1<=18446744073709551615) ((λ(a:Nat)(ha:a=nlw n1)=>have ha1:=(show 1<=a/\a<=2 from by rw[ha];exact NG n1);have hL:=(show(vk (List.replicate 4 (0:Nat)) 0 n1).length=4 from O4 _ _ _);I (by omega:a<=4) (I (by omega:a=a) (q4J (λ(h3:1<d1)=>I (by omega:a<=4) (I (by omega:a<4) (I (by omega:2<=4-a) (I (by omega:a+2<=(vk (List.replicate 4 (0:Nat)) 0 n1).length) (I (by omega:d1<=18446744073709551615) ((λ(b:Nat)(hb:b=a+(nlw d1))=>have hb1:=NG d1;have hL2:=(show(vk (vk (List.replicate 4 (0:Nat)) 0 n1) a d1).length=4 from(O4 _ _ _).trans hL);I (by omega:a<b) (I (by omega:b<=4) (I (by omega:b=b) (I (by omega:a<=(vk (vk (List.replicate 4 (0:Nat)) 0 n1) a d1).length) (I (by omega:a+(b-a)<=(vk (vk (List.replicate 4 (0:Nat)) 0 n1) a d1).length) (I ((zj (by omega) hp0).symm:neg=decide ((qw neg n d).num<0)) (I (by rw[vA hp0,<-hg,<-hn1];subst ha;first|exact Oi hn0 hn9|exact QG hn0 hn9:(vk (vk (List.replicate 4 (0:Nat)) 0 n1) a d1).take a=limbs ((qw neg n d).num.natAbs)) (I (by rw[(jL hp0).2,<-hg,<-hd1,denL,if_neg (by omega)];subst hb ha;exact q0t hd0 hd9:((vk (vk (List.replicate 4 (0:Nat)) 0 n1) a d1).drop a).take (b-a)=denL (qw neg n d).den) (I (by rw[vA hp0,<-hg,<-hn1];exact q5D hn9 (by decide):qR (qw neg n d).num.natAbs 64) (I (by rw[(jL hp0).2,<-hg,<-hd1];exact q5C hd9 (by decide):le2 (qw neg n d).den 64) ((Eq.refl (qw neg n d))))))))))))) (a+(nlw d1)) rfl)))))) (λ(h4: ¬(1<d1))=>I (by omega:a<=(vk (List.replicate 4 (0:Nat)) 0 n1).length) (I ((zj (by omega) hp0).symm:neg=decide ((qw neg n d).num<0)) (I (by rw[vA hp0,<-hg,<-hn1];subst ha;first|exact Oi hn0 hn9|exact QG hn0 hn9:(vk (List.replicate 4 (0:Nat)) 0 n1).take a=limbs ((qw neg n d).num.natAbs)) (I (by rw[(jL hp0).2,<-hg,<-hd1];omega:(qw neg n d).den=1) (I (by rw[vA hp0,<-hg,<-hn1];exact q5D hn9 (by decide):qR (qw neg n d).num.natAbs 64) (I (by rw[(jL hp0).2,<-hg,<-hd1];exact q5C hd9 (by decide):le2 (qw neg n d).den 64) ((Eq.refl (qw neg n d)))))))))))) (nlw n1) rfl)))) (d/g) rfl) (n/g) rfl))) (Nat.gcd n d) rfl))⟩)
abbrev GR:Ctr Tryz.prog:=FI.c q0v
abbrev q03:FI:=⟨297,[.rat],[(.n 1099511627776)],λ_=>[],λb z=>(λ(x:Rat)=> .tup [.one (.dt (.nat .u64) (.n 4294967295) (pn x)),.one (.dt (.nat .u64) (.n 4294967295) (pd x)),.one (.dt .bool .u (pb x))]) z⟩
theorem q04:q03.OK Tryz.prog:=mkF hmix 30 Tryz.func297 rfl rfl (by decide) [(320,.c QC)] (λ(x:Rat) b hx hp=>je (qx (Je x) rfl) (je (qx (Jb x) rfl) (je (qx trivial rfl) zx))) (λ(x:Rat) hx hp=>by
 refine⟨.nil,kcast (by kernel_rfl) (Sp (1<(limbs x.num.natAbs).length) (λh1=>q4J ((GK (by first|exact .inl (by assumption)|exact .inr (by assumption))).1:0=pn x) (q4J ((GK (by first|exact .inl (by assumption)|exact .inr (by assumption))).2.1:0=pd x) ((GK (by first|exact .inl (by assumption)|exact .inr (by assumption))).2.2:false=pb x))) (λh2=>Sp (1<(denL x.den).length) (λh3=>q4J ((GK (by first|exact .inl (by assumption)|exact .inr (by assumption))).1:0=pn x) (q4J ((GK (by first|exact .inl (by assumption)|exact .inr (by assumption))).2.1:0=pd x) ((GK (by first|exact .inl (by assumption)|exact .inr (by assumption))).2.2:false=pb x))) (λh4=>have hs:=p_sm (x:=x) (by unfold bigQ;omega);Sp ((denL x.den).length=1) (λh5=>I (?_:0<(denL x.den).length) (I (?_:(limbs x.num.natAbs).length<=2) (q4J (hs.1:x.num.natAbs=pn x) (q4J (by have:=hs.2.1;have:= @Tq x.den (by omega);omega:(denL x.den).getD 0 0=pd x) (by rw[hs.2.2];have:= @Tq x.den (by omega);have:=x.den_nz;exact decide_eq_true (by omega):decide ((denL x.den).getD 0 0≠0)=pb x))))) (λh6=>I (?_:(limbs x.num.natAbs).length<=2) (q4J (hs.1:x.num.natAbs=pn x) (q4J (by rw[<-hs.2.1];exact(El x.den_nz (by omega)).symm:1=pd x) (by rw[hs.2.2]:true=pb x)))))))⟩<;>omega)
abbrev GL:Ctr Tryz.prog:=FI.c q04
abbrev Xh:FI:=⟨261,[.bool,.mag,.mag],[.u,(.n 64),(.n 64)],λ_=>[],λb z=>(λ(neg:Bool)(n:Nat)(d:Nat)=> .c (.agg [.dt .rat (.n (max (b1 b).nb (b2 b).nb)) (qw neg n d)])) z.1 z.2.1 z.2.2⟩
theorem Xi:Xh.OK Tryz.prog:=mkF hmix 68 Tryz.func261 rfl rfl (by decide) [(266,.c T8),(298,.c GR),(320,.c QC)] (λ(neg:Bool)(n:Nat)(d:Nat) b hx hp=>jH (I0 (qr (Nat.le_max_left _ _) (Bnds.h3 hx).2.1.mag) (qr (Nat.le_max_right _ _) (Bnds.h3 hx).2.2.mag))) (λ(neg:Bool)(n:Nat)(d:Nat) hx hp=>by
 have hx1:qR n 64:=hx.2.1;have hl1:(limbs n).length<=3:=qE (q5z hx1);have hx2:qR d 64:=hx.2.2;have hl2:(limbs d).length<=3:=qE (q5z hx2);have hn2:=nl64 hx1;have hd2:=nl64 hx2
 refine⟨.cond (.nil) (.cond (.nil) (.cond (.cond (.nil) (.dead)) (.dead))),kcast (by kernel_rfl) (q4J (λ(h1:bl n=0)=>(?_:0=qw neg n d)) (λ(h2: ¬(bl n=0))=>q4J (λ(h3:bl d=0)=>(?_:0=qw neg n d)) (λ(h4: ¬(bl d=0))=>have hn0:=(show 0<n from q5Q (mt Cm.2 (by omega)));have hd0:=(show 0<d from q5Q (mt Cm.2 (by omega)));q4J (λ(h5:(limbs n).length<=2)=>q4J (λ(h6:(limbs d).length<=2)=>I (?_:(limbs n).length<=2) (I (?_:(limbs d).length<=2) (I (?_:0<d) ((Eq.refl (qw neg n d)))))) (λ(h7: ¬((limbs d).length<=2))=>(?_:False))) (λ(h8: ¬((limbs n).length<=2))=>(?_:False)))))⟩<;>first|omega|(first|rw[Cm.1 (show bl n=0 by omega),Be]|rw[Cm.1 (show bl d=0 by omega),Of]))
abbrev O7:Ctr Tryz.prog:=FI.c Xi
abbrev q45:FI:=⟨302,[(.sl (.nat .u32)),(.sl (.nat .u32))],[(.s 1099511627776 (.n 4294967295)),(.s 1099511627776 (.n 4294967295))],λ_=>[],λb z=>(λ(l:List Nat)(m:List Nat)=> .c (.one (.dt .bool .u (decide (l=m))))) z.1 z.2⟩
theorem q46:q45.OK Tryz.prog:=mkF hmix 26 Tryz.func302 rfl rfl (by decide) [] (λ(l:List Nat)(m:List Nat) b hx hp=>qx trivial rfl) (λ(l:List Nat)(m:List Nat) hx hp=>by
 have hl0:l.length<=1099511627776:=hx.1.1;have hl1:m.length<=1099511627776:=hx.2.1
 refine⟨.cond (.nil) (.loop [.s 13 (.nat .i64) (.n 1099511627776)] (λ(i:Nat)=>i<=l.length/\l.take i=m.take i) (λ(i:Nat)=>l.length-i) (λ(i:Nat)=> .nil)),kcast (by kernel_rfl) (Sp (l.length≠m.length) (λh1=>((decide_eq_false (by first|exact(JL (by omega) hC.2 (by omega)).2 (by omega)|exact λe=>absurd (congrArg List.length e) (by assumption))).symm:false=decide (l=m))) (λh2=>I (⟨q5X _,rfl⟩:0<=l.length/\l.take 0=m.take 0) (λ(i:Nat)(hb3:HB [.s 13 (.nat .i64) (.n 1099511627776)] i)(hC:i<=l.length/\l.take i=m.take i)=>have hv8:=(show i<=1099511627776 from hb3);Sp (i<l.length) (λh4=>I (?_:i<l.length) (I (?_:i<m.length) (Sp (l.getD i 0≠m.getD i 0) (λh5=>((decide_eq_false (by first|exact(JL (by omega) hC.2 (by omega)).2 (by omega)|exact λe=>absurd (congrArg List.length e) (by assumption))).symm:false=decide (l=m))) (λh6=>I (show(i+1)<=1099511627776 by omega:Bnd (.nat .i64) (.n 1099511627776) (i+1)) (q4J (⟨by omega,(JL (by omega) hC.2 (by omega)).1 (by omega)⟩:(i+1)<=l.length/\l.take (i+1)=m.take (i+1)) (?_:l.length-(i+1)<l.length-i)))))) (λh7=>((decide_eq_true (by have:=hC.2;rwa [q5o (by omega),q5o (by omega)]at this)).symm:true=decide (l=m))))))⟩<;>omega)
abbrev XX:Ctr Tryz.prog:=FI.c q46
abbrev q0j:FI:=⟨178,[.rat],[(.n 31)],λ_=>[],λb z=>(λ(x:Rat)=> .c (.one (.dt (.int .i64) (.n 1) (jp x)))) z⟩
theorem Qz:q0j.OK Tryz.prog:=mkF hmix 11 Tryz.func178 rfl rfl (by decide) [(266,.c T8)] (λ(x:Rat) b hx hp=>qx (Oh x) rfl) (λ(x:Rat) hx hp=>by
 refine⟨.nil,kcast (by kernel_rfl) (Sp (bl x.num.natAbs=0) (λh1=>(by rw[jp,if_pos (Cm.1 (by omega))]:0=jp x)) (λh2=>Sp (x.num<0) (λh3=>(by rw[jp,if_neg (λe=>absurd (Cm.2 e) (by omega)),if_pos (by assumption)]:(-1)=jp x)) (λh4=>(by rw[jp,if_neg (λe=>absurd (Cm.2 e) (by omega)),if_neg (by assumption)]:1=jp x))))⟩)
abbrev Qy:Ctr Tryz.prog:=FI.c Qz
abbrev q2H:FI:=⟨179,[(.int .i64)],[(.n 9223372036854775807)],λ_=>[],λb z=>(λ(v:Int)=> .c (.agg [.dt .rat (.n (Nat.log2 (b0 b).nb+1)) ((v:Rat))])) z⟩
theorem q2I:q2H.OK Tryz.prog:=mkF hmix 9 Tryz.func179 rfl rfl (by decide) [(261,.c O7),(262,.c QA),(267,.c UP)] (λ(v:Int) b hx hp=>jH (PQ (Bnds.h1 hx).int)) (λ(v:Int) hx hp=>by
 refine⟨.nil,kcast (by kernel_rfl) ((QF v:qw (decide (v<0)) v.natAbs 1=(v:Rat)))⟩)
abbrev q2M:FI:=⟨225,[.rat,.rat],[(.n 31),(.n 31)],λ_=>[],λb z=>(λ(x:Rat)(y:Rat)=> .c (.agg [.dt .rat (.n ((b0 b).nb+(b1 b).nb)) (x*y)])) z.1 z.2⟩
theorem UN:q2M.OK Tryz.prog:=mkF hmix 64 Tryz.func225 rfl rfl (by decide) [(297,.c GL),(298,.c GR)] (λ(x:Rat)(y:Rat) b hx hp=>jH (Dw (Bnds.h2 hx).1 (Bnds.h2 hx).2)) (λ(x:Rat)(y:Rat) hx hp=>by
 have hx0:Bnd .rat (.n 31) x:=hx.1;have hx1:Bnd .rat (.n 31) y:=hx.2
 refine⟨.cond (.nil) (.cond (.nil) (.cond (.cond (.nil) (.dead)) (.dead))),kcast (by kernel_rfl) (Sp ((limbs x.num.natAbs).length=0) (λh1=>(?_:0=x*y)) (λh2=>Sp ((limbs y.num.natAbs).length=0) (λh3=>(?_:0=x*y)) (λh4=>Sp (pb x=true) (λh5=>Sp (pb y=true) (λh6=>have hpx:=D9 (x:=x) (by assumption);have hpy:=D9 (x:=y) (by assumption);I (q5P hpx.2.2 hpy.2.2:0<(pd x)*(pd y)) ((?_:qw (decide ((decide (x.num<0))≠(decide (y.num<0)))) ((pn x)*(pn y)) ((pd x)*(pd y))=x*y))) (λh7=>(absurd (Dh hx1) h7:False))) (λh8=>(absurd (Dh hx0) h8:False)))))⟩<;>first|(first|rw[Au (nl0.1 (show(limbs x.num.natAbs).length=0 by omega)),Rat.zero_mul]|rw[Au (nl0.1 (show(limbs y.num.natAbs).length=0 by omega)),Rat.mul_zero])|(first|exact DU x y|(rw[hpx.1,hpy.1,hpx.2.1,hpy.2.1];exact DU x y)))
abbrev q2L:Ctr Tryz.prog:=FI.c UN
def XP:Array Value->Sem Value:=λargs=>do
 let(x,y,c)<-Extern.MathBitsCarry.three "Add64" args
 pure (Extern.MathBitsCarry.pair ((x+y+c)%Extern.MathBitsCarry.m64) ((x+y+c)/Extern.MathBitsCarry.m64))
theorem Ww:Extern.findNext Tryz.f347=none:=by kernel_rfl
theorem Z7:Extern.find Tryz.f347=some XP:=by kernel_rfl
theorem UR(a b:Nat)(w:World):(XP #[.int .u64 (a:Int),.int .u64 (b:Int),.int .u64 0]).run Tryz.prog w= .ok (Extern.MathBitsCarry.pair ((a+b)%18446744073709551616) ((a+b)/18446744073709551616)) w:=by
 kernel_rfl
theorem X4{fx x y z:Operand}{ts:Array TypeId}{ty:TypeId}{a b:Nat}:
  OpOk Tryz.prog (.call {callee:= .value fx,args:= #[x,y,z],argTypes:=ts}) ty [(fx,vFun 347),(x,qb .u64 a),(y,qb .u64 b),(z,qb .u64 0)] []
   (.tup [.one (.val (.int .u64 (((a+b)%18446744073709551616:Nat):Int))),.one (.val (.int .u64 (((a+b)/18446744073709551616:Nat):Int)))]) []:=
 qk λac w H β hins _ _=>by
  have hf:=(hins (fx,vFun 347) (by simp)).1;have hx:=(hins (x,qb .u64 a) (by simp)).1;have hy:=(hins (y,qb .u64 b) (by simp)).1;have hz:=(hins (z,qb .u64 0) (by simp)).1;simp only at hf hx hy hz;refine⟨Extern.MathBitsCarry.pair ((a+b)%18446744073709551616) ((a+b)/18446744073709551616),?_,λ_ _ _ _=>?_⟩
  .exact⟨_,rfl,⟨⟨rfl,rfl⟩,⟨⟨rfl,rfl⟩,trivial⟩⟩⟩
  .have hb: Tryz.f347.body.isNone=true:=by kernel_rfl
   have hn:(Tryz.f347.name== "runtime.NumGoroutine")=false:=by kernel_rfl
   simp only[execOp,resolve,hf,Deferred.ofValue,q64,q65,q63,invoke,callFunc,run_program,Tryz.func347,hb,hn,q4M,if_false,if_true,Ww,Z7];rw[show(#[]++Array.map ac.eval #[x,y,z]++ #[]:Array Value)= #[.int .u64 (a:Int),.int .u64 (b:Int),.int .u64 0] by simp[hx,hy,hz]];rw[show Sem.run Tryz.prog (mark (Mark.extern 347)) w= .ok () w from rfl];simp only[q63,UR]
abbrev q2y:FI:=⟨301,[.rat,.rat,.bool],[(.n 31),(.n 31),.u],λ_=>[],λb z=>(λ(x:Rat)(y:Rat)(s:Bool)=> .c (.agg [.dt .rat (.n ((b0 b).nb+(b1 b).nb+1)) (x+yQ s y)])) z.1 z.2.1 z.2.2⟩
theorem q2z:q2y.OK Tryz.prog:=mkF hmix 152 Tryz.func301 rfl rfl (by decide) [(297,.c GL),(298,.c GR)] (λ(x:Rat)(y:Rat)(s:Bool) b hx hp=>jH (JE (Bnds.h3 hx).1 (Bnds.h3 hx).2.1)) (λ(x:Rat)(y:Rat)(s:Bool) hx hp=>by
 have hx0:Bnd .rat (.n 31) x:=hx.1;have hx1:Bnd .rat (.n 31) y:=hx.2.1
 refine⟨.cond (.cond (.h 6 2 (.any [.c (.one (.vl (.func (.func 347) #[] #[]))),.c (.one (.dt (.nat .u64) (.n 18446744065119617025) ((pn x)*(pd y)))),.c (.one (.dt (.nat .u64) (.n 18446744065119617025) ((pn y)*(pd x)))),.c (.one (.kn .u64 0))] (.tup [(.one (.dt (.nat .u64) (.n 18446744073709551615) ((((pn x)*(pd y))+((pn y)*(pd x)))%18446744073709551616))),(.one (.dt (.nat .u64) (.n 1) (cy ((pn x)*(pd y)) ((pn y)*(pd x)))))]) (je (qx (q5A (q5I _ (by decide))) rfl) (je (qx (q43 (q5N (Je x) (Jb y)) (q5N (Je y) (Jb x))) rfl) zx)) (Op.call {callee:= .value (.func 347),args:= #[.tmp 43,.tmp 44,.const (.int .u64 0)],argTypes:= #[113,113,113]}) (λ_=>X4 (a:=(pn x)*(pd y)) (b:=(pn y)*(pd x)))) (.cond (.cond (.nil) (.dead)) (.cond (.cond (.h 10 4 (.i .sub) (.nil)) (.cond (.h 12 3 (.i .sub) (.nil)) (.dead))) (.dead)))) (.dead)) (.dead),kcast (by kernel_rfl) (Sp (pb x=true) (λh1=>Sp (pb y=true) (λh2=>have hpx:=D9 (x:=x) (by assumption);have hpy:=D9 (x:=y) (by assumption);have hx8:=Je x;have hx9:=Jb x;have hy8:=Je y;have hy9:=Jb y;have hm1:=q5N hx8 hy9;have hm2:=q5N hy8 hx9;have hpp:=q5P hpx.2.2 hpy.2.2;I (rfl:([.c (.one (.vl (.func (.func 347) #[] #[]))),.c (.one (.dt (.nat .u64) (.n 18446744065119617025) ((pn x)*(pd y)))),.c (.one (.dt (.nat .u64) (.n 18446744065119617025) ((pn y)*(pd x)))),.c (.one (.kn .u64 0))]:List WV)=[.c (.one (.vl (.func (.func 347) #[] #[]))),.c (.one (.dt (.nat .u64) (.n 18446744065119617025) ((pn x)*(pd y)))),.c (.one (.dt (.nat .u64) (.n 18446744065119617025) ((pn y)*(pd x)))),.c (.one (.kn .u64 0))]) (I (rfl:(Op.call {callee:= .value (.func 347),args:= #[.tmp 43,.tmp 44,.const (.int .u64 0)],argTypes:= #[113,113,113]}:Op)=Op.call {callee:= .value (.func 347),args:= #[.tmp 43,.tmp 44,.const (.int .u64 0)],argTypes:= #[113,113,113]}) (Sp ((decide (x.num<0))=s) (λh3=>Sp (cy ((pn x)*(pd y)) ((pn y)*(pd x))=0) (λh4=>I (hpp:0<(pd x)*(pd y)) ((?_:qw s ((((pn x)*(pd y))+((pn y)*(pd x)))%18446744073709551616) ((pd x)*(pd y))=x+yQ s y))) (λh5=>(absurd (q4D hx0 hx1) h5:False))) (λh6=>Sp ((decide (x.num<0))≠s) (λh7=>Sp ((pn y)*(pd x)<=(pn x)*(pd y)) (λh8=>I (by first|omega|contradiction:(pn y)*(pd x)<=(pn x)*(pd y)) (I (hpp:0<(pd x)*(pd y)) ((?_:qw (decide (x.num<0)) (((pn x)*(pd y)) -((pn y)*(pd x))) ((pd x)*(pd y))=x+yQ s y)))) (λh9=>Sp ((decide (x.num<0))≠s) (λh10=>I (by first|omega|contradiction:(pn x)*(pd y)<=(pn y)*(pd x)) (I (hpp:0<(pd x)*(pd y)) ((?_:qw s (((pn y)*(pd x)) -((pn x)*(pd y))) ((pd x)*(pd y))=x+yQ s y)))) (λh11=>(by first|contradiction|simp_all:False)))) (λh12=>(by first|contradiction|simp_all:False)))))) (λh13=>(absurd (Dh hx1) h13:False))) (λh14=>(absurd (Dh hx0) h14:False)))⟩<;>first|(first|contradiction|skip;rw[hpx.1,hpx.2.1,hpy.1,hpy.2.1]at*;first|(rw[q19 (by assumption)];exact Fa (by assumption))|exact F8 (by assumption) (by assumption)|exact F9 (by assumption) (by omega)))
abbrev UG:Ctr Tryz.prog:=FI.c q2z
abbrev q0b:FI:=⟨254,[.rat,.rat],[(.n 31),(.n 31)],λ_=>[],λb z=>(λ(x:Rat)(y:Rat)=> .c (.agg [.dt .rat (.n ((b0 b).nb+(b1 b).nb+1)) (x+y)])) z.1 z.2⟩
theorem Qr:q0b.OK Tryz.prog:=mkF hmix 10 Tryz.func254 rfl rfl (by decide) [(301,.c UG)] (λ(x:Rat)(y:Rat) b hx hp=>jH (Hj (Bnds.h2 hx).1 (Bnds.h2 hx).2)) (λ(x:Rat)(y:Rat) hx hp=>by
 refine⟨.nil,kcast (by kernel_rfl) ((by rw[Bj]:x+yQ (decide (y.num<0)) y=x+y))⟩)
abbrev q0a:Ctr Tryz.prog:=FI.c Qr
abbrev q2T:FI:=⟨219,[.rat,.rat],[(.n 31),(.n 31)],λ_=>[],λb z=>(λ(x:Rat)(y:Rat)=> .c (.agg [.dt .rat (.n ((b0 b).nb+(b1 b).nb+1)) (x-y)])) z.1 z.2⟩
theorem q2U:q2T.OK Tryz.prog:=mkF hmix 11 Tryz.func219 rfl rfl (by decide) [(301,.c UG)] (λ(x:Rat)(y:Rat) b hx hp=>jH (Oq (Bnds.h2 hx).1 (Bnds.h2 hx).2)) (λ(x:Rat)(y:Rat) hx hp=>by
 refine⟨.nil,kcast (by kernel_rfl) ((by rw[show decide (¬(y.num<0))=!decide (y.num<0)from decide_not,OX,Rat.sub_eq_add_neg]:x+yQ (decide (¬(y.num<0))) y=x-y))⟩)
abbrev UH:FI:=⟨268,[.rat],[(.n 1099511627776)],λ_=>[],λb z=>(λ(x:Rat)=> .c (.agg [.dt .rat (b0 b) x])) z⟩
theorem Lo:UH.OK Tryz.prog:=mkF hmix 12 Tryz.func268 rfl rfl (by decide) [(269,.c MP)] (λ(x:Rat) b hx hp=>jH (Bnds.h1 hx)) (λ(x:Rat) hx hp=>by
 have hx0:Bnd .rat (.n 1099511627776) x:=hx
 refine⟨.h 1 7 (.c Cn) (.h 1 8 (.rat x 1099511627776) (.nil)),kcast (by kernel_rfl) (I (Eq.refl (decide (x.num<0))) (I (Eq.refl x.num.natAbs) (I (Eq.refl (denL x.den)) (I (hx0.1:qR x.num.natAbs 1099511627776) (I (hx0.2:le2 x.den 1099511627776) ((Eq.refl x)))))))⟩)
abbrev Ln:Ctr Tryz.prog:=FI.c Lo
abbrev q2R:FI:=⟨218,[.rat,.rat],[(.n 31),(.n 31)],λ_=>[],λb z=>(λ(x:Rat)(y:Rat)=> .tup [.agg [.dt .rat (.n ((b0 b).nb+(b1 b).nb)) (x/y)],.one (.dt (.int .i64) (.n 3) (quoC y))]) z.1 z.2⟩
theorem q2S:q2R.OK Tryz.prog:=mkF hmix 58 Tryz.func218 rfl rfl (by decide) [(178,.c Qy),(297,.c GL),(298,.c GR)] (λ(x:Rat)(y:Rat) b hx hp=>je (jH (Qq (Bnds.h2 hx).1 (Bnds.h2 hx).2)) (je (qx (UF y) rfl) zx)) (λ(x:Rat)(y:Rat) hx hp=>by
 have hx0:Bnd .rat (.n 31) x:=hx.1;have hx1:Bnd .rat (.n 31) y:=hx.2
 refine⟨.cond (.nil) (.cond (.cond (.nil) (.dead)) (.dead)),kcast (by kernel_rfl) (Sp (jp y=0) (λh1=>q4J (Yn (Og.1 (by assumption)):0=x/y) ((if_pos (Og.1 (by assumption))).symm:3=quoC y)) (λh2=>have hy0:=mt Og.2 (by assumption);Sp (pb x=true) (λh3=>Sp (pb y=true) (λh4=>have hpx:=D9 (x:=x) (by assumption);have hpy:=D9 (x:=y) (by assumption);I (q5P hpx.2.2 (hpy.1▸q5Q hy0):0<(pd x)*(pn y)) (q4J (?_:qw (decide ((decide (x.num<0))≠(decide (y.num<0)))) ((pn x)*(pd y)) ((pd x)*(pn y))=x/y) ((if_neg hy0).symm:0=quoC y))) (λh5=>(absurd (Dh hx1) h5:False))) (λh6=>(absurd (Dh hx0) h6:False))))⟩<;>first|(first|exact FZ hy0|(rw[hpx.1,hpy.1,hpx.2.1,hpy.2.1];exact FZ hy0)))
abbrev q2A:FI:=⟨222,[.rat,.rat],[(.n 31),(.n 31)],λ_=>[],λb z=>(λ(x:Rat)(y:Rat)=> .c (.one (.dt (.int .i64) (.n 1) (cmpQ x y)))) z.1 z.2⟩
theorem q2B:q2A.OK Tryz.prog:=mkF hmix 80 Tryz.func222 rfl rfl (by decide) [(178,.c Qy),(297,.c GL),(302,.c XX),(303,.c q3V)] (λ(x:Rat)(y:Rat) b hx hp=>qx (MQ x y) rfl) (λ(x:Rat)(y:Rat) hx hp=>by
 have hx0:Bnd .rat (.n 31) x:=hx.1;have hx1:Bnd .rat (.n 31) y:=hx.2
 refine⟨.cond (.nil) (.cond (.nil) (.cond (.cond (.nil) (.dead)) (.dead))),kcast (by kernel_rfl) (Sp (jp x≠jp y) (λh1=>Sp (jp x<jp y) (λh2=>(?_:(-1)=cmpQ x y)) (λh3=>(?_:1=cmpQ x y))) (λh4=>have hs:=(show jp x=jp y by omega);Sp (decide ((denL x.den)=(denL y.den))=true) (λh5=>have hde:=(show x.den=y.den from Hr x.den_nz y.den_nz (by have h:=h5;simpa using h));Sp (x.num<0) (λh6=>(?_: -(j9 x.num.natAbs y.num.natAbs)=cmpQ x y)) (λh7=>(?_:j9 x.num.natAbs y.num.natAbs=cmpQ x y))) (λh8=>Sp (pb x=true) (λh9=>Sp (pb y=true) (λh10=>have hpx:=D9 (x:=x) (by assumption);have hpy:=D9 (x:=y) (by assumption);Sp ((pn x)*(pd y)<(pn y)*(pd x)) (λh11=>Sp (x.num<0) (λh12=>(?_:1=cmpQ x y)) (λh13=>(?_:(-1)=cmpQ x y))) (λh14=>Sp ((pn y)*(pd x)<(pn x)*(pd y)) (λh15=>Sp (x.num<0) (λh16=>(?_:(-1)=cmpQ x y)) (λh17=>(?_:1=cmpQ x y))) (λh18=>Sp (x.num<0) (λh19=>(?_:0=cmpQ x y)) (λh20=>(?_:0=cmpQ x y))))) (λh21=>(absurd (Dh hx1) h21:False))) (λh22=>(absurd (Dh hx0) h22:False)))))⟩<;>first|(first|exact((Gm (by assumption)).1 (by assumption)).symm|exact((Gm (by assumption)).2 (by assumption)).symm|(rw[Pq hs (by assumption)];first|exact Ek hde|exact congrArg Neg.neg (Ek hde)|rfl|(rw[Th hpx hpy];unfold j9;split<;>(try split)<;>first|rfl|omega))|(rw[Pr hs (by assumption)];first|exact Ek hde|exact congrArg Neg.neg (Ek hde)|rfl|(rw[Th hpx hpy];unfold j9;split<;>(try split)<;>first|rfl|omega))))
abbrev q0h:FI:=⟨305,[.rat,.rat],[(.n 1099511627776),(.n 1099511627776)],λ_=>[],λb z=>(λ(x:Rat)(y:Rat)=> .c (.one (.dt .bool .u (decide (x=y))))) z.1 z.2⟩
theorem q0i:q0h.OK Tryz.prog:=mkF hmix 24 Tryz.func305 rfl rfl (by decide) [(302,.c XX)] (λ(x:Rat)(y:Rat) b hx hp=>qx trivial rfl) (λ(x:Rat)(y:Rat) hx hp=>by
 refine⟨.nil,kcast (by kernel_rfl) (Sp ((decide (x.num<0))=(decide (y.num<0))) (λh1=>Sp (decide ((limbs x.num.natAbs)=(limbs y.num.natAbs))=true) (λh2=>(?_:decide ((denL x.den)=(denL y.den))=decide (x=y))) (λh3=>(?_:false=decide (x=y)))) (λh4=>(?_:false=decide (x=y))))⟩<;>first|(first|exact q4z (by assumption)|exact q4A (by assumption)|exact q4B (by assumption) (by assumption)))
abbrev q0N:FO:=⟨112,[(.sl (.nat .u32))],[(.s 1099511627776 (.n 4294967295))],λz=>(λ(ls:List Nat)=>[∀u∈ls,u<4294967296]) z,λk b z=>(λ(ls:List Nat)=> .c (.one (.gs k ((limbs (qe ls)).length) 1 ((b0 b).len)))) z,λb z=>(λ(ls:List Nat)=> .gro (.nat .u32) (.n 4294967295) (limbs (qe ls))) z⟩
theorem q0O:q0N.OK Tryz.prog:=mkO hmix 23 22 Tryz.func112 rfl rfl (by decide) [] (λ_=>rfl) (λ_ _ _=>rfl) (λ_ _=>rfl) (λ_ _ _=>⟨rfl,rfl⟩) (λ(ls:List Nat) k b hx hp=>⟨qx (q5C (Qd (hp _ q5f)) (Bnds.h1 hx).sl.1) rfl,λu hu=>q5A (vr _ u hu)⟩) (λ(ls:List Nat) hx hp=>by
 have hl0:ls.length<=1099511627776:=hx.1;have hp0: ∀u∈ls,u<4294967296:=hp _ (q5f)
 refine bodyO.g (.loop [.s 3 (.nat .i64) (.n 1099511627776)] (λ(k:Nat)=>k<=ls.length/\qe (ls.take k)=qe ls) (λ(k:Nat)=>k) (λ(k:Nat)=> .cond (.h 2 5 (.i .sub) (.cond (.h 3 1 (.i .sub) (.nil)) (.h 4 0 (.mk (.gro (.nat .u32) (.n 4294967295))) (.nil)))) (.h 4 0 (.mk (.gro (.nat .u32) (.n 4294967295))) (.nil)))) (kcast (by kernel_rfl) (I (⟨q5B _,by rw[q5n]⟩:ls.length<=ls.length/\qe (ls.take ls.length)=qe ls) (λ(k:Nat)(hb1:HB [.s 3 (.nat .i64) (.n 1099511627776)] k)(hC:k<=ls.length/\qe (ls.take k)=qe ls)=>have hv6:=(show k<=1099511627776 from hb1);have hk:=hC.1;Sp (0<k) (λh2=>I (?_:1<=k) (I (?_:k-1<ls.length) (Sp (ls.getD (k-1) 0=0) (λh3=>I (?_:1<=k) (q4J (⟨by omega,LE hC.1 (by omega) hC.2 (by omega)⟩:k-1<=ls.length/\qe (ls.take (k-1))=qe ls) (?_:k-1<k))) (λh4=>I (?_:k<=ls.length) (I (rfl:0=([]:List Nat).length) (q4J ((q5k _).trans (Bf hp0 hC.1 hC.2 (by omega)):([]:List Nat)++(ls.take k)=limbs (qe ls)) ((by rw[<-Bf hp0 hC.1 hC.2 (by omega)];simp:0+(ls.take k).length=(limbs (qe ls)).length)))))))) (λh5=>I (?_:k<=ls.length) (I (rfl:0=([]:List Nat).length) (q4J ((q5k _).trans (Bf hp0 hC.1 hC.2 (by omega)):([]:List Nat)++(ls.take k)=limbs (qe ls)) ((by rw[<-Bf hp0 hC.1 hC.2 (by omega)];simp:0+(ls.take k).length=(limbs (qe ls)).length))))))))<;>omega)
abbrev q0M(k:Nat)(b:List Bd)(ls:List Nat):WV:= .c (.one (.gs k ((limbs (qe ls)).length) 1 ((b0 b).len)))
abbrev q0L(b:List Bd)(ls:List Nat):WB:= .gro (.nat .u32) (.n 4294967295) (limbs (qe ls))
theorem VX(d:Nat)(ls:List Nat)(hx:Bnds [(.sl (.nat .u32))] [(.s 1099511627776 (.n 4294967295))] ls)(hp: ∀c0∈([∀u∈ls,u<4294967296]:List Prop),c0):SigG Tryz.prog 112 (argsE [(.sl (.nat .u32))] ls) [] (q0M d [(.s 1099511627776 (.n 4294967295))] ls).exp [(d,some (q0L [(.s 1099511627776 (.n 4294967295))] ls).exp)]:=q0O.sig d ls hx hp
theorem VW(b:List Bd)(ls:List Nat)(hx:Bnds [.sl (.nat .u32)] b ls)(hp: ∀p∈([∀u∈ls,u<4294967296]:List Prop),p):(WV.c (.one (.dt .mag (.n (32*(b0 b).len)) (qe ls)))).ok:=qx (EJ (hp _ q5f) (Bnds.h1 hx).sl.1) rfl
theorem JA(ls:List Nat)(hx:Bnds [.sl (.nat .u32)] [.s 1099511627776 (.n 4294967295)] ls)(hp: ∀p∈([∀u∈ls,u<4294967296]:List Prop),p)(b:Bd):Sig Tryz.prog 112 (argsE [.sl (.nat .u32)] ls) (WV.c (.one (.dt .mag b (qe ls)))).exp:=by
 have h:=frzO (VX 0 ls hx hp) (by decide) rfl .u;rw[magE (qe ls) .u b]at h;exact h
def H3:Ctr Tryz.prog:=⟨112,[.sl (.nat .u32)],[.s 1099511627776 (.n 4294967295)],λz=>[∀u∈z,u<4294967296],λb z=> .c (.one (.dt .mag (.n (32*(b0 b).len)) (qe z))),λz hx hp=>JA z hx hp _,λ_ _=>rfl,λb z hx hp=>VW b z hx hp⟩
theorem ST(x:Nat)(hx:Bnds [.mag] [.n 1099511627776] x)(b:Bd):Sig Tryz.prog 112 (argsE [.mag] x) (WV.c (.one (.dt .mag b x))).exp:=by
 have h:=JA (limbs x) ⟨q5C (qE (q5z hx)) (by decide),(Bnd.limbs hx).2⟩ (by intro p hp;simp only[q5d,q5l,or_false]at hp;subst hp;exact vr x) b;rw[j8,<-Fd]at h;exact h
def Ky:Ctr Tryz.prog:=⟨112,[.mag],[.n 1099511627776],λz=>[],λb z=> .c (.one (.dt .mag (b0 b) z)),λz hx hp=>ST z hx _,λ_ _=>rfl,λb z hx hp=>qx (Bnds.h1 hx) rfl⟩
abbrev q4G:FI:=⟨130,[(.nat .u64)],[(.n 18446744073709551615)],λ_=>[],λb z=>(λ(x:Nat)=> .c (.one (.dt .mag (.n (Nat.log2 (b0 b).nb+1)) (x)))) z⟩
theorem q4H:q4G.OK Tryz.prog:=mkF hmix 10 Tryz.func130 rfl rfl (by decide) [] (λ(x:Nat) b hx hp=>qx (AD (Bnds.h1 hx).nat) rfl) (λ(x:Nat) hx hp=>by
 have hx0:x<=18446744073709551615:=hx
 refine⟨.h 1 5 (.mk (.im (.nat .u32) (.n 4294967295))) (.h 1 6 (.c H3) (.nil)),kcast (by kernel_rfl) (I (by intro u hu;simp only[q5d,q5l,or_false]at hu;omega: ∀u∈[x%4294967296,x/2^32],u<4294967296) ((by simp only[qe];omega:qe [x%4294967296,x/2^32]=x)))⟩)
abbrev SS:Ctr Tryz.prog:=FI.c q4H
abbrev q3h:FI:=⟨58,[.mag,.mag],[(.n 1099511627776),(.n 1099511627776)],λ_=>[],λb z=>(λ(x:Nat)(y:Nat)=> .c (.one (.dt (.int .i64) (.n 1) (j9 x y)))) z.1 z.2⟩
theorem q3i:q3h.OK Tryz.prog:=mkF hmix 41 Tryz.func58 rfl rfl (by decide) [] (λ(x:Nat)(y:Nat) b hx hp=>qx (Pp x y) rfl) (λ(x:Nat)(y:Nat) hx hp=>by
 have hx0:qR x 1099511627776:=hx.1;have hl0:(limbs x).length<=34359738369:=qE (q5z hx0);have hx1:qR y 1099511627776:=hx.2;have hl1:(limbs y).length<=34359738369:=qE (q5z hx1)
 refine⟨.cond (.nil) (.loop [.s 5 (.int .i64) (.n 68719476736)] (λ(z:Int)=>CmpI x y z) (λ(z:Int)=>(z+1).toNat) (λ(z:Int)=> .cond (.h 8 2 (.ix z.toNat) (.h 8 6 (.ix z.toNat) (.cond (.nil) (.h 10 2 (.ix z.toNat) (.h 10 6 (.ix z.toNat) (.nil)))))) (.nil))),kcast (by kernel_rfl) (Sp ((limbs x).length≠(limbs y).length) (λh1=>Sp ((limbs x).length<(limbs y).length) (λh2=>(?_:(-1)=j9 x y)) (λh3=>(?_:1=j9 x y))) (λh4=>I (CmpI.start (by omega):CmpI x y ((((limbs x).length:Nat):Int) -1)) (λ(z:Int)(hb5:HB [.s 5 (.int .i64) (.n 68719476736)] z)(hC:CmpI x y z)=>have hv12:=(show Int.natAbs z<=68719476736 from hb5);have hC0:=hC.h0;have hC1:=hC.h1;Sp (0<=z) (λh6=>I (?_:z=((z.toNat:Nat):Int)) (I (?_:z.toNat<(limbs x).length) (I (?_:z=((z.toNat:Nat):Int)) (I (?_:z.toNat<(limbs y).length) (Sp ((limbs x).getD z.toNat 0<(limbs y).getD z.toNat 0) (λh7=>(?_:(-1)=j9 x y)) (λh8=>I (?_:z=((z.toNat:Nat):Int)) (I (?_:z.toNat<(limbs x).length) (I (?_:z=((z.toNat:Nat):Int)) (I (?_:z.toNat<(limbs y).length) (Sp ((limbs y).getD z.toNat 0<(limbs x).getD z.toNat 0) (λh9=>(?_:1=j9 x y)) (λh10=>I (show Int.natAbs (z-1)<=68719476736 by omega:Bnd (.int .i64) (.n 68719476736) (z-1)) (q4J ((hC.at (by omega) (by omega)).1 (by omega):CmpI x y (z-1)) (?_:((z-1)+1).toNat<(z+1).toNat))))))))))))) (λh11=>((hC.fin (by omega)).symm:0=j9 x y)))))⟩<;>first|omega|(first|exact(MR (by omega)).symm|exact((hC.at (by omega) (by omega)).2.1 (by omega)).symm)|(first|exact(MT (by omega)).symm|exact((hC.at (by omega) (by omega)).2.2 (by omega)).symm))
abbrev Gc:Ctr Tryz.prog:=FI.c q3i
abbrev XL:FI:=⟨281,[.mag,.mag],[(.n 1099511627776),(.n 1099511627776)],λz=>(λ(x:Nat)(y:Nat)=>[y<=x]) z.1 z.2,λb z=>(λ(x:Nat)(y:Nat)=> .c (.one (.dt .mag (b0 b) (x-y)))) z.1 z.2⟩
theorem XM:XL.OK Tryz.prog:=mkF hmix 50 Tryz.func281 rfl rfl (by decide) [] (λ(x:Nat)(y:Nat) b hx hp=>qx (Bnd.magLe (Bnds.h2 hx).1 (Nat.sub_le _ _)) rfl) (λ(x:Nat)(y:Nat) hx hp=>by
 have hx0:qR x 1099511627776:=hx.1;have hl0:(limbs x).length<=34359738369:=qE (q5z hx0);have hx1:qR y 1099511627776:=hx.2;have hl1:(limbs y).length<=34359738369:=qE (q5z hx1);have hp0:y<=x:=hp _ (q5f);have hlen:=wM hp0
 refine⟨.h 1 2 (.mk (.arr (.nat .u32) (.n 4294967295))) (.loop [.s 7 (.nat .i64) (.n 34359738369),.s 6 (.nat .u64) (.n 1),.a 12 (.nat .u32) (.n 4294967295)] (λ((i,c,out):Nat×Nat×List Nat)=>SubI x y i c out) (λ((i,c,out):Nat×Nat×List Nat)=>(limbs x).length-i) (λ((i,c,out):Nat×Nat×List Nat)=> .cond (.cond (.cond (.h 14 4 (.i .sub) (.nil)) (.h 14 4 (.i .sub) (.nil))) (.cond (.h 14 4 (.i .sub) (.nil)) (.h 14 4 (.i .sub) (.nil)))) (.pre 15 (.frz 12 true [5]) (.h 15 1 (.c H3) (.nil))))),kcast (by kernel_rfl) (I (?_:(limbs x).length=(limbs x).length) (I (SubI.start x y:SubI x y 0 0 (List.replicate ((limbs x).length) (0:Nat))) (λ(i:Nat)(c:Nat)(out:List Nat)(hb1:HB [.s 7 (.nat .i64) (.n 34359738369),.s 6 (.nat .u64) (.n 1),.a 12 (.nat .u32) (.n 4294967295)] (i,c,out))(hI:SubI x y i c out)=>have hv10:=(show i<=34359738369 from hb1.1);have hv11:=(show c<=1 from hb1.2.1);have hv12:=(show∀u∈out,u<=4294967295 from hb1.2.2);have hIl:=hI.hl;have hIi:=hI.hi;have hIc:=hI.hc;have hg1:=qz x i;have hg2:=qz y i;Sp (i<(limbs x).length) (λh2=>Sp (i<(limbs y).length) (λh3=>I (?_:i<(limbs y).length) (I (?_:i<(limbs x).length) (Sp ((limbs x).getD i 0<c+((limbs y).getD i 0)) (λh4=>I (?_:c+((limbs y).getD i 0)<=((limbs x).getD i 0)+4294967296) (I (?_:i<(limbs x).length) (I (?_:i<out.length) (I (show(i+1)<=34359738369 by omega:Bnd (.nat .i64) (.n 34359738369) (i+1)) (q4J (?_:SubI x y (i+1) 1 (out.set i (((((limbs x).getD i 0)+4294967296) -(c+((limbs y).getD i 0)))%4294967296))) (?_:(limbs x).length-(i+1)<(limbs x).length-i)))))) (λh5=>I (?_:c+((limbs y).getD i 0)<=(limbs x).getD i 0) (I (?_:i<(limbs x).length) (I (?_:i<out.length) (I (show(i+1)<=34359738369 by omega:Bnd (.nat .i64) (.n 34359738369) (i+1)) (q4J (?_:SubI x y (i+1) 0 (out.set i (((limbs x).getD i 0) -(c+((limbs y).getD i 0))))) (?_:(limbs x).length-(i+1)<(limbs x).length-i))))))))) (λh6=>I (?_:i<(limbs x).length) (Sp ((limbs x).getD i 0<c) (λh7=>I (?_:c<=((limbs x).getD i 0)+4294967296) (I (?_:i<(limbs x).length) (I (?_:i<out.length) (I (show(i+1)<=34359738369 by omega:Bnd (.nat .i64) (.n 34359738369) (i+1)) (q4J (?_:SubI x y (i+1) 1 (out.set i (((((limbs x).getD i 0)+4294967296) -c)%4294967296))) (?_:(limbs x).length-(i+1)<(limbs x).length-i)))))) (λh8=>I (?_:c<=(limbs x).getD i 0) (I (?_:i<(limbs x).length) (I (?_:i<out.length) (I (show(i+1)<=34359738369 by omega:Bnd (.nat .i64) (.n 34359738369) (i+1)) (q4J (?_:SubI x y (i+1) 0 (out.set i (((limbs x).getD i 0) -c))) (?_:(limbs x).length-(i+1)<(limbs x).length-i))))))))) (λh9=>I (?_:(limbs x).length=out.length) (have hF:=hI.fin' (by omega) hp0;I (hF.2: ∀u∈out,u<4294967296) ((hF.1:qe out=x-y)))))))⟩<;>first|omega|(first|exact hI.lt (by omega) (by first|rfl|rw[ja (l:=limbs y) (by omega),q5t]) (by assumption)|exact hI.ge (by omega) (by first|rfl|rw[ja (l:=limbs y) (by omega),q5t]) (by assumption)))
abbrev XK:Ctr Tryz.prog:=FI.c XM
abbrev q3s:FI:=⟨194,[.mag,.mag],[(.n 1099511627776),(.n 1099511627776)],λ_=>[],λb z=>(λ(x:Nat)(y:Nat)=> .tup [.one (.dt .mag (b0 b) (x-y)),.one (.dt (.int .i64) (.n 7) (subC x y))]) z.1 z.2⟩
theorem q3t:q3s.OK Tryz.prog:=mkF hmix 13 Tryz.func194 rfl rfl (by decide) [(58,.c Gc),(281,.c XK)] (λ(x:Nat)(y:Nat) b hx hp=>je (qx (Bnd.magLe (Bnds.h2 hx).1 (Nat.sub_le _ _)) rfl) (je (qx (q31 x y) rfl) zx)) (λ(x:Nat)(y:Nat) hx hp=>by
 have hx0:qR x 1099511627776:=hx.1;have hl0:(limbs x).length<=34359738369:=qE (q5z hx0);have hx1:qR y 1099511627776:=hx.2;have hl1:(limbs y).length<=34359738369:=qE (q5z hx1)
 refine⟨.nil,kcast (by kernel_rfl) (Sp (j9 x y<0) (λh1=>q4J (by have:=zt.1 (show j9 x y<0 by assumption);omega:0=x-y) ((if_pos (zt.1 (by assumption))).symm:7=subC x y)) (λh2=>have hp0:=(show y<=x from Nat.le_of_not_lt (mt zt.2 (by assumption)));I (?_:y<=x) (q4J (Eq.refl (x-y)) ((if_neg (by omega)).symm:0=subC x y))))⟩<;>omega)
abbrev q3r:Ctr Tryz.prog:=FI.c q3t
abbrev q3p:FI:=⟨59,[.mag,.mag],[(.n 1099511627776),(.n 1099511627776)],λ_=>[],λb z=>(λ(x:Nat)(y:Nat)=> .c (.one (.dt .mag (.n ((b0 b).nb+(b1 b).nb)) (x*y)))) z.1 z.2⟩
theorem q3q:q3p.OK Tryz.prog:=mkF hmix 67 Tryz.func59 rfl rfl (by decide) [] (λ(x:Nat)(y:Nat) b hx hp=>qx (Q5 (Bnds.h2 hx).1.mag (Bnds.h2 hx).2.mag) rfl) (λ(x:Nat)(y:Nat) hx hp=>by
 have hx0:qR x 1099511627776:=hx.1;have hl0:(limbs x).length<=34359738369:=qE (q5z hx0);have hx1:qR y 1099511627776:=hx.2;have hl1:(limbs y).length<=34359738369:=qE (q5z hx1)
 refine⟨.h 1 5 (.mk (.arr (.nat .u32) (.n 4294967295))) (.loop [.s 6 (.nat .i64) (.n 34359738369),.a 14 (.nat .u32) (.n 4294967295)] (λ((i,out):Nat×List Nat)=>MulI x y i out) (λ((i,out):Nat×List Nat)=>(limbs x).length-i) (λ((i,out):Nat×List Nat)=> .cond (.loop [.s 8 (.nat .i64) (.n 34359738369),.s 7 (.nat .u64) (.n 4294967295),.a 14 (.nat .u32) (.n 4294967295)] (λ((j,c,out2):Nat×Nat×List Nat)=>MulJ x y i ((limbs x).getD i 0) j c out out2) (λ((j,c,out2):Nat×Nat×List Nat)=>(limbs y).length-j) (λ((j,c,out2):Nat×Nat×List Nat)=> .nil)) (.pre 13 (.frz 14 true [5]) (.h 13 1 (.c H3) (.nil))))),kcast (by kernel_rfl) (I (?_:((limbs x).length)+((limbs y).length)=((limbs x).length)+((limbs y).length)) (I (MulI.start x y:MulI x y 0 (List.replicate (((limbs x).length)+((limbs y).length)) (0:Nat))) (λ(i:Nat)(out:List Nat)(hb1:HB [.s 6 (.nat .i64) (.n 34359738369),.a 14 (.nat .u32) (.n 4294967295)] (i,out))(hM:MulI x y i out)=>have hv10:=(show i<=34359738369 from hb1.1);have hv11:=(show∀u∈out,u<=4294967295 from hb1.2);have hMl:=hM.hl;have hMi:=hM.hi;Sp (i<(limbs x).length) (λh2=>I (MulJ.start hM:MulJ x y i ((limbs x).getD i 0) 0 0 out out) (λ(j:Nat)(c:Nat)(out2:List Nat)(hb3:HB [.s 8 (.nat .i64) (.n 34359738369),.s 7 (.nat .u64) (.n 4294967295),.a 14 (.nat .u32) (.n 4294967295)] (j,c,out2))(hJ:MulJ x y i ((limbs x).getD i 0) j c out out2)=>have hv6:=(show j<=34359738369 from hb3.1);have hv7:=(show c<=4294967295 from hb3.2.1);have hv8:=(show∀u∈out2,u<=4294967295 from hb3.2.2);have hJl:=hJ.hl;have hJj:=hJ.hj;have hJc:=hJ.hc;Sp (j<(limbs y).length) (λh4=>I (?_:i<(limbs x).length) (I (?_:j<(limbs y).length) (I (?_:i+j<((limbs x).length)+((limbs y).length)) (I (?_:i+j<out2.length) (I (?_:i+j<((limbs x).length)+((limbs y).length)) (I (?_:i+j<out2.length) (I (show(j+1)<=34359738369 by omega:Bnd (.nat .i64) (.n 34359738369) (j+1)) (q4J ((hJ.step (by omega) (by omega) (qz x i) rfl).1:MulJ x y i ((limbs x).getD i 0) (j+1) ((c+((((limbs x).getD i 0)*((limbs y).getD j 0))+(out2.getD (i+j) 0)))/2^32) out (out2.set (i+j) ((c+((((limbs x).getD i 0)*((limbs y).getD j 0))+(out2.getD (i+j) 0)))%4294967296))) (?_:(limbs y).length-(j+1)<(limbs y).length-j))))))))) (λh5=>I (?_:i+((limbs y).length)<((limbs x).length)+((limbs y).length)) (I (?_:i+((limbs y).length)<out2.length) (I (show(i+1)<=34359738369 by omega:Bnd (.nat .i64) (.n 34359738369) (i+1)) (q4J (MulJ.fin' hM (by omega) hJ (by omega):MulI x y (i+1) (out2.set (i+((limbs y).length)) c)) (?_:(limbs x).length-(i+1)<(limbs x).length-i))))))) (λh9=>I (?_:((limbs x).length)+((limbs y).length)=out.length) (have hF:=hM.fin' (by omega);I (hF.2: ∀u∈out,u<4294967296) ((hF.1:qe out=x*y)))))))⟩<;>omega)
abbrev Jz:Ctr Tryz.prog:=FI.c q3q
abbrev VU:FI:=⟨282,[.mag,(.nat .u32)],[(.n 1099511627776),(.n 4294967295)],λz=>(λ(x:Nat)(u:Nat)=>[0<u]) z.1 z.2,λb z=>(λ(x:Nat)(u:Nat)=> .tup [.one (.dt .mag (b0 b) (x/u)),.one (.dt (.nat .u32) (b1 b) (x%u))]) z.1 z.2⟩
theorem VV:VU.OK Tryz.prog:=mkF hmix 43 Tryz.func282 rfl rfl (by decide) [] (λ(x:Nat)(u:Nat) b hx hp=>je (qx ((Bnds.h2 hx).1.magLe (q5u _ _)) rfl) (je (qx ((Bnds.h2 hx).2.natLe (q5z (q5I _ (hp _ (q5f))))) rfl) zx)) (λ(x:Nat)(u:Nat) hx hp=>by
 have hx0:qR x 1099511627776:=hx.1;have hl0:(limbs x).length<=34359738369:=qE (q5z hx0);have hx1:u<=4294967295:=hx.2;have hp0:0<u:=hp _ (q5f)
 refine⟨.h 1 2 (.mk (.arr (.nat .u32) (.n 4294967295))) (.loop [.s 8 (.int .i64) (.n 34359738370),.s 7 (.nat .u64) (.n 4294967295),.a 11 (.nat .u32) (.n 4294967295)] (λ((z,r,out):Int×Nat×List Nat)=>SmallZ x u z r out) (λ((z,r,out):Int×Nat×List Nat)=>(z+1).toNat) (λ((z,r,out):Int×Nat×List Nat)=> .cond (.h 6 4 (.ix z.toNat) (.h 6 7 (.i (.n ((r*2^32)+((limbs x).getD z.toNat 0)) 18446744073709551615)) (.h 7 7 (.ix z.toNat) (.nil)))) (.pre 9 (.frz 11 true [6,7]) (.h 9 1 (.c H3) (.nil))))),kcast (by kernel_rfl) (I (?_:(limbs x).length=(limbs x).length) (I (SmallZ.start hp0:SmallZ x u ((((limbs x).length:Nat):Int) -1) 0 (List.replicate ((limbs x).length) (0:Nat))) (λ(z:Int)(r:Nat)(out:List Nat)(hb1:HB [.s 8 (.int .i64) (.n 34359738370),.s 7 (.nat .u64) (.n 4294967295),.a 11 (.nat .u32) (.n 4294967295)] (z,r,out))(hI:SmallZ x u z r out)=>have hv4:=(show Int.natAbs z<=34359738370 from hb1.1);have hv5:=(show r<=4294967295 from hb1.2.1);have hv6:=(show∀u∈out,u<=4294967295 from hb1.2.2);have hB:=hI.b;Sp (0<=z) (λh2=>I (?_:z=((z.toNat:Nat):Int)) (I (?_:z.toNat<(limbs x).length) (I (R5 _ 32 rfl (qz _ _) (by have:=qz x z.toNat;omega):wA .or .u64 ((r*2^32:Nat):Int) (((limbs x).getD z.toNat 0:Nat):Int) (((r*2^32)+((limbs x).getD z.toNat 0):Nat):Int)) (I (by have:=qz x z.toNat;omega:(r*2^32)+((limbs x).getD z.toNat 0)<=18446744073709551615) (I (?_:0<u) (I (?_:z=((z.toNat:Nat):Int)) (I (?_:z.toNat<(limbs x).length) (I (?_:z.toNat<out.length) (I (?_:0<u) (I (show Int.natAbs (z-1)<=34359738370 by omega:Bnd (.int .i64) (.n 34359738370) (z-1)) (q4J (hI.step (by omega) rfl:SmallZ x u (z-1) (((r*2^32)+((limbs x).getD z.toNat 0))%u) (out.set z.toNat ((((r*2^32)+((limbs x).getD z.toNat 0))/u)%4294967296))) (?_:((z-1)+1).toNat<(z+1).toNat)))))))))))) (λh3=>I (?_:(limbs x).length=out.length) (have hF:=hI.fin (by omega);I (hF.2.2: ∀u∈out,u<4294967296) (q4J (hF.1:qe out=x/u) (hF.2.1:r=x%u)))))))⟩<;>omega)
abbrev XN:FI:=⟨329,[.mag],[(.n 1099511627776)],λ_=>[],λb z=>(λ(x:Nat)=> .tup [.one (.dt (.nat .u64) (.n 18446744073709551615) (xw x)),.one (.dt .bool .u (xk x))]) z⟩
theorem XO:XN.OK Tryz.prog:=mkF hmix 26 Tryz.func329 rfl rfl (by decide) [] (λ(x:Nat) b hx hp=>je (qx (q4I x) rfl) (je (qx trivial rfl) zx)) (λ(x:Nat) hx hp=>by
 have hx0:qR x 1099511627776:=hx;have hl0:(limbs x).length<=34359738369:=qE (q5z hx0)
 refine⟨.cond (.nil) (.cond (.nil) (.cond (.h 7 9 (.i (.n (((limbs x).getD 0 0)+(((limbs x).getD 1 0)*2^32)) 18446744073709551615)) (.nil)) (.nil))),kcast (by kernel_rfl) (Sp ((limbs x).length=0) (λh1=>q4J (by rw[(xw_y (by omega)).1];exact(nl0.1 (by omega)).symm:0=xw x) ((xw_y (by omega)).2.symm:true=xk x)) (λh2=>Sp ((limbs x).length=1) (λh3=>I (?_:0<(limbs x).length) (q4J (by rw[(xw_y (by omega)).1];exact Y1 (by omega):(limbs x).getD 0 0=xw x) ((xw_y (by omega)).2.symm:true=xk x))) (λh4=>Sp ((limbs x).length=2) (λh5=>I (?_:0<(limbs x).length) (I (?_:1<(limbs x).length) (I (q0Y _ 32 rfl (qz _ _) (by have:=qz x 0;have:=qz x 1;omega):wA .or .u64 (((limbs x).getD 0 0:Nat):Int) ((((limbs x).getD 1 0)*2^32:Nat):Int) ((((limbs x).getD 0 0)+(((limbs x).getD 1 0)*2^32):Nat):Int)) (I (by have:=qz x 0;have:=qz x 1;omega:((limbs x).getD 0 0)+(((limbs x).getD 1 0)*2^32)<=18446744073709551615) (q4J (by rw[(xw_y (by omega)).1];exact VD (by omega):((limbs x).getD 0 0)+(((limbs x).getD 1 0)*2^32)=xw x) ((xw_y (by omega)).2.symm:true=xk x)))))) (λh6=>q4J ((xw_n (by omega)).1.symm:0=xw x) ((xw_n (by omega)).2.symm:false=xk x)))))⟩<;>omega)
abbrev OW:Ctr Tryz.prog:=FI.c XO
abbrev q3f:FI:=⟨193,[.mag,.mag],[(.n 1099511627776),(.n 1099511627776)],λ_=>[],λb z=>(λ(x:Nat)(y:Nat)=> .c (.one (.dt .mag (.n (max (b0 b).nb (b1 b).nb+1)) (x+y)))) z.1 z.2⟩
theorem q3g:q3f.OK Tryz.prog:=mkF hmix 54 Tryz.func193 rfl rfl (by decide) [] (λ(x:Nat)(y:Nat) b hx hp=>qx (K7 (Bnds.h2 hx).1.mag (Bnds.h2 hx).2.mag) rfl) (λ(x:Nat)(y:Nat) hx hp=>by
 have hx0:qR x 1099511627776:=hx.1;have hl0:(limbs x).length<=34359738369:=qE (q5z hx0);have hx1:qR y 1099511627776:=hx.2;have hl1:(limbs y).length<=34359738369:=qE (q5z hx1)
 refine⟨.loop [.s 7 (.nat .i64) (.n 34359738371),.s 6 (.nat .u64) (.n 1),.g 5 90005 (.nat .u32) (.n 4294967295) 34359738371] (λ((i,c,out):Nat×Nat×List Nat)=>AddX x y i c out) (λ((i,c,out):Nat×Nat×List Nat)=>max (limbs x).length (limbs y).length+1-i) (λ((i,c,out):Nat×Nat×List Nat)=> .cond (.cond (.cond (.h 10 3 (.mk (.im (.nat .u32) (.n 4294967295))) (.nil)) (.h 10 3 (.mk (.im (.nat .u32) (.n 4294967295))) (.nil))) (.cond (.h 10 3 (.mk (.im (.nat .u32) (.n 4294967295))) (.nil)) (.h 10 3 (.mk (.im (.nat .u32) (.n 4294967295))) (.nil)))) (.cond (.cond (.cond (.h 10 3 (.mk (.im (.nat .u32) (.n 4294967295))) (.nil)) (.h 10 3 (.mk (.im (.nat .u32) (.n 4294967295))) (.nil))) (.cond (.h 10 3 (.mk (.im (.nat .u32) (.n 4294967295))) (.nil)) (.h 10 3 (.mk (.im (.nat .u32) (.n 4294967295))) (.nil)))) (.cond (.cond (.cond (.h 10 3 (.mk (.im (.nat .u32) (.n 4294967295))) (.nil)) (.h 10 3 (.mk (.im (.nat .u32) (.n 4294967295))) (.nil))) (.cond (.h 10 3 (.mk (.im (.nat .u32) (.n 4294967295))) (.nil)) (.h 10 3 (.mk (.im (.nat .u32) (.n 4294967295))) (.nil)))) (.pre 12 (.frz 90005 true [5]) (.h 12 1 (.mag (x+y) 1099511627777) (.nil)))))),kcast (by kernel_rfl) (I (rfl:0=([]:List Nat).length) (I (AddX.start x y:AddX x y 0 0 ([]:List Nat)) (λ(i:Nat)(c:Nat)(out:List Nat)(hb1:HB [.s 7 (.nat .i64) (.n 34359738371),.s 6 (.nat .u64) (.n 1),.g 5 90005 (.nat .u32) (.n 4294967295) 34359738371] (i,c,out))(hI:AddX x y i c out)=>have hv26:=(show i<=34359738371 from hb1.1);have hv27:=(show c<=1 from hb1.2.1);have hv28:=(show out.length<=34359738371 from hb1.2.2.1);have hIl:=hI.hl;have hIi:=hI.hi;have hIc:=hI.hc;have hg1:=qz x i;have hg2:=qz y i;Sp (i<(limbs x).length) (λh2=>Sp (i<(limbs x).length) (λh3=>I (?_:i<(limbs x).length) (Sp (i<(limbs y).length) (λh4=>I (?_:i<(limbs y).length) (I (?_:out.length=out.length) (I (show(i+1)<=34359738371 by omega:Bnd (.nat .i64) (.n 34359738371) (i+1)) (I (by(try simp only[q55,q56,q59])<;>omega:out.length+[((c+((limbs x).getD i 0))+((limbs y).getD i 0))%4294967296].length=(out++[((c+((limbs x).getD i 0))+((limbs y).getD i 0))%4294967296]).length) (I (by(try simp only[q55,q56,q59])<;>omega:out.length+[((c+((limbs x).getD i 0))+((limbs y).getD i 0))%4294967296].length<=34359738371) (q4J (hI.step2 (by omega) (by first|rfl|(have hq1:= @ja (limbs x) i;have hq2:= @ja (limbs y) i;omega)) (by omega):AddX x y (i+1) (((c+((limbs x).getD i 0))+((limbs y).getD i 0))/2^32) (out++[((c+((limbs x).getD i 0))+((limbs y).getD i 0))%4294967296])) (by have:=hI.le (by omega);omega:max (limbs x).length (limbs y).length+1-(i+1)<max (limbs x).length (limbs y).length+1-i))))))) (λh5=>I (?_:out.length=out.length) (I (show(i+1)<=34359738371 by omega:Bnd (.nat .i64) (.n 34359738371) (i+1)) (I (by(try simp only[q55,q56,q59])<;>omega:out.length+[(c+((limbs x).getD i 0))%4294967296].length=(out++[(c+((limbs x).getD i 0))%4294967296]).length) (I (by(try simp only[q55,q56,q59])<;>omega:out.length+[(c+((limbs x).getD i 0))%4294967296].length<=34359738371) (q4J (hI.step2 (by omega) (by first|rfl|(have hq1:= @ja (limbs x) i;have hq2:= @ja (limbs y) i;omega)) (by omega):AddX x y (i+1) ((c+((limbs x).getD i 0))/2^32) (out++[(c+((limbs x).getD i 0))%4294967296])) (by have:=hI.le (by omega);omega:max (limbs x).length (limbs y).length+1-(i+1)<max (limbs x).length (limbs y).length+1-i)))))))) (λh6=>Sp (i<(limbs y).length) (λh7=>I (?_:i<(limbs y).length) (I (?_:out.length=out.length) (I (show(i+1)<=34359738371 by omega:Bnd (.nat .i64) (.n 34359738371) (i+1)) (I (by(try simp only[q55,q56,q59])<;>omega:out.length+[(c+((limbs y).getD i 0))%4294967296].length=(out++[(c+((limbs y).getD i 0))%4294967296]).length) (I (by(try simp only[q55,q56,q59])<;>omega:out.length+[(c+((limbs y).getD i 0))%4294967296].length<=34359738371) (q4J (hI.step2 (by omega) (by first|rfl|(have hq1:= @ja (limbs x) i;have hq2:= @ja (limbs y) i;omega)) (by omega):AddX x y (i+1) ((c+((limbs y).getD i 0))/2^32) (out++[(c+((limbs y).getD i 0))%4294967296])) (by have:=hI.le (by omega);omega:max (limbs x).length (limbs y).length+1-(i+1)<max (limbs x).length (limbs y).length+1-i))))))) (λh8=>I (?_:out.length=out.length) (I (show(i+1)<=34359738371 by omega:Bnd (.nat .i64) (.n 34359738371) (i+1)) (I (by(try simp only[q55,q56,q59])<;>omega:out.length+[c].length=(out++[c]).length) (I (by(try simp only[q55,q56,q59])<;>omega:out.length+[c].length<=34359738371) (q4J (hI.step2 (by omega) (by first|rfl|(have hq1:= @ja (limbs x) i;have hq2:= @ja (limbs y) i;omega)) (by omega):AddX x y (i+1) (c/2^32) (out++[c])) (by have:=hI.le (by omega);omega:max (limbs x).length (limbs y).length+1-(i+1)<max (limbs x).length (limbs y).length+1-i)))))))) (λh9=>Sp (i<(limbs y).length) (λh10=>Sp (i<(limbs x).length) (λh11=>I (?_:i<(limbs x).length) (Sp (i<(limbs y).length) (λh12=>I (?_:i<(limbs y).length) (I (?_:out.length=out.length) (I (show(i+1)<=34359738371 by omega:Bnd (.nat .i64) (.n 34359738371) (i+1)) (I (by(try simp only[q55,q56,q59])<;>omega:out.length+[((c+((limbs x).getD i 0))+((limbs y).getD i 0))%4294967296].length=(out++[((c+((limbs x).getD i 0))+((limbs y).getD i 0))%4294967296]).length) (I (by(try simp only[q55,q56,q59])<;>omega:out.length+[((c+((limbs x).getD i 0))+((limbs y).getD i 0))%4294967296].length<=34359738371) (q4J (hI.step2 (by omega) (by first|rfl|(have hq1:= @ja (limbs x) i;have hq2:= @ja (limbs y) i;omega)) (by omega):AddX x y (i+1) (((c+((limbs x).getD i 0))+((limbs y).getD i 0))/2^32) (out++[((c+((limbs x).getD i 0))+((limbs y).getD i 0))%4294967296])) (by have:=hI.le (by omega);omega:max (limbs x).length (limbs y).length+1-(i+1)<max (limbs x).length (limbs y).length+1-i))))))) (λh13=>I (?_:out.length=out.length) (I (show(i+1)<=34359738371 by omega:Bnd (.nat .i64) (.n 34359738371) (i+1)) (I (by(try simp only[q55,q56,q59])<;>omega:out.length+[(c+((limbs x).getD i 0))%4294967296].length=(out++[(c+((limbs x).getD i 0))%4294967296]).length) (I (by(try simp only[q55,q56,q59])<;>omega:out.length+[(c+((limbs x).getD i 0))%4294967296].length<=34359738371) (q4J (hI.step2 (by omega) (by first|rfl|(have hq1:= @ja (limbs x) i;have hq2:= @ja (limbs y) i;omega)) (by omega):AddX x y (i+1) ((c+((limbs x).getD i 0))/2^32) (out++[(c+((limbs x).getD i 0))%4294967296])) (by have:=hI.le (by omega);omega:max (limbs x).length (limbs y).length+1-(i+1)<max (limbs x).length (limbs y).length+1-i)))))))) (λh14=>Sp (i<(limbs y).length) (λh15=>I (?_:i<(limbs y).length) (I (?_:out.length=out.length) (I (show(i+1)<=34359738371 by omega:Bnd (.nat .i64) (.n 34359738371) (i+1)) (I (by(try simp only[q55,q56,q59])<;>omega:out.length+[(c+((limbs y).getD i 0))%4294967296].length=(out++[(c+((limbs y).getD i 0))%4294967296]).length) (I (by(try simp only[q55,q56,q59])<;>omega:out.length+[(c+((limbs y).getD i 0))%4294967296].length<=34359738371) (q4J (hI.step2 (by omega) (by first|rfl|(have hq1:= @ja (limbs x) i;have hq2:= @ja (limbs y) i;omega)) (by omega):AddX x y (i+1) ((c+((limbs y).getD i 0))/2^32) (out++[(c+((limbs y).getD i 0))%4294967296])) (by have:=hI.le (by omega);omega:max (limbs x).length (limbs y).length+1-(i+1)<max (limbs x).length (limbs y).length+1-i))))))) (λh16=>I (?_:out.length=out.length) (I (show(i+1)<=34359738371 by omega:Bnd (.nat .i64) (.n 34359738371) (i+1)) (I (by(try simp only[q55,q56,q59])<;>omega:out.length+[c].length=(out++[c]).length) (I (by(try simp only[q55,q56,q59])<;>omega:out.length+[c].length<=34359738371) (q4J (hI.step2 (by omega) (by first|rfl|(have hq1:= @ja (limbs x) i;have hq2:= @ja (limbs y) i;omega)) (by omega):AddX x y (i+1) (c/2^32) (out++[c])) (by have:=hI.le (by omega);omega:max (limbs x).length (limbs y).length+1-(i+1)<max (limbs x).length (limbs y).length+1-i)))))))) (λh17=>Sp (c≠0) (λh18=>Sp (i<(limbs x).length) (λh19=>I (?_:i<(limbs x).length) (Sp (i<(limbs y).length) (λh20=>I (?_:i<(limbs y).length) (I (?_:out.length=out.length) (I (show(i+1)<=34359738371 by omega:Bnd (.nat .i64) (.n 34359738371) (i+1)) (I (by(try simp only[q55,q56,q59])<;>omega:out.length+[((c+((limbs x).getD i 0))+((limbs y).getD i 0))%4294967296].length=(out++[((c+((limbs x).getD i 0))+((limbs y).getD i 0))%4294967296]).length) (I (by(try simp only[q55,q56,q59])<;>omega:out.length+[((c+((limbs x).getD i 0))+((limbs y).getD i 0))%4294967296].length<=34359738371) (q4J (hI.step2 (by omega) (by first|rfl|(have hq1:= @ja (limbs x) i;have hq2:= @ja (limbs y) i;omega)) (by omega):AddX x y (i+1) (((c+((limbs x).getD i 0))+((limbs y).getD i 0))/2^32) (out++[((c+((limbs x).getD i 0))+((limbs y).getD i 0))%4294967296])) (by have:=hI.le (by omega);omega:max (limbs x).length (limbs y).length+1-(i+1)<max (limbs x).length (limbs y).length+1-i))))))) (λh21=>I (?_:out.length=out.length) (I (show(i+1)<=34359738371 by omega:Bnd (.nat .i64) (.n 34359738371) (i+1)) (I (by(try simp only[q55,q56,q59])<;>omega:out.length+[(c+((limbs x).getD i 0))%4294967296].length=(out++[(c+((limbs x).getD i 0))%4294967296]).length) (I (by(try simp only[q55,q56,q59])<;>omega:out.length+[(c+((limbs x).getD i 0))%4294967296].length<=34359738371) (q4J (hI.step2 (by omega) (by first|rfl|(have hq1:= @ja (limbs x) i;have hq2:= @ja (limbs y) i;omega)) (by omega):AddX x y (i+1) ((c+((limbs x).getD i 0))/2^32) (out++[(c+((limbs x).getD i 0))%4294967296])) (by have:=hI.le (by omega);omega:max (limbs x).length (limbs y).length+1-(i+1)<max (limbs x).length (limbs y).length+1-i)))))))) (λh22=>Sp (i<(limbs y).length) (λh23=>I (?_:i<(limbs y).length) (I (?_:out.length=out.length) (I (show(i+1)<=34359738371 by omega:Bnd (.nat .i64) (.n 34359738371) (i+1)) (I (by(try simp only[q55,q56,q59])<;>omega:out.length+[(c+((limbs y).getD i 0))%4294967296].length=(out++[(c+((limbs y).getD i 0))%4294967296]).length) (I (by(try simp only[q55,q56,q59])<;>omega:out.length+[(c+((limbs y).getD i 0))%4294967296].length<=34359738371) (q4J (hI.step2 (by omega) (by first|rfl|(have hq1:= @ja (limbs x) i;have hq2:= @ja (limbs y) i;omega)) (by omega):AddX x y (i+1) ((c+((limbs y).getD i 0))/2^32) (out++[(c+((limbs y).getD i 0))%4294967296])) (by have:=hI.le (by omega);omega:max (limbs x).length (limbs y).length+1-(i+1)<max (limbs x).length (limbs y).length+1-i))))))) (λh24=>I (?_:out.length=out.length) (I (show(i+1)<=34359738371 by omega:Bnd (.nat .i64) (.n 34359738371) (i+1)) (I (by(try simp only[q55,q56,q59])<;>omega:out.length+[c].length=(out++[c]).length) (I (by(try simp only[q55,q56,q59])<;>omega:out.length+[c].length<=34359738371) (q4J (hI.step2 (by omega) (by first|rfl|(have hq1:= @ja (limbs x) i;have hq2:= @ja (limbs y) i;omega)) (by omega):AddX x y (i+1) (c/2^32) (out++[c])) (by have:=hI.le (by omega);omega:max (limbs x).length (limbs y).length+1-(i+1)<max (limbs x).length (limbs y).length+1-i)))))))) (λh25=>I (?_:out.length=out.length) (I (hI.fin (by omega) (by omega) (by omega):out=limbs (x+y)) (I (qr (by decide) (K7 hx0 hx1):qR (x+y) 1099511627777) ((Eq.refl (x+y)))))))))))⟩<;>omega)
abbrev q3e:Ctr Tryz.prog:=FI.c q3g
abbrev q3k:FI:=⟨280,[.mag,.mag],[(.n 64),(.n 64)],λz=>(λ(x:Nat)(y:Nat)=>[0<y]) z.1 z.2,λb z=>(λ(x:Nat)(y:Nat)=> .tup [.one (.dt .mag (b0 b) (x/y)),.one (.dt .mag (b1 b) (x%y)),.one (.kn .i64 0)]) z.1 z.2⟩
theorem q3l:q3k.OK Tryz.prog:=mkF hmix 163 Tryz.func280 rfl rfl (by decide) [(58,.c Gc),(112,.c Ky),(130,.c SS),(329,.c OW)] (λ(x:Nat)(y:Nat) b hx hp=>je (qx ((Bnds.h2 hx).1.magLe (q5u _ _)) rfl) (je (qx ((Bnds.h2 hx).2.magLe (q5z (q5I _ (hp _ (q5f))))) rfl) (je q4e zx))) (λ(x:Nat)(y:Nat) hx hp=>by
 have hx0:qR x 64:=hx.1;have hl0:(limbs x).length<=3:=qE (q5z hx0);have hx1:qR y 64:=hx.2;have hl1:(limbs y).length<=3:=qE (q5z hx1);have hp0:0<y:=hp _ (q5f);have hyp:=mt (nl0 (x:=y)).1 (show¬y=0 by omega)
 refine⟨.cond (.dead) (.cond (.nil) (.cond (.nil) (.dead))),kcast (by kernel_rfl) (Sp ((limbs y).length=0) (λh1=>(absurd (nl0.1 h1) (by omega):False)) (λh2=>Sp (j9 x y<0) (λh3=>q4J ((Nat.div_eq_of_lt (zt.1 (by omega))).symm:0=x/y) ((q5H (zt.1 (by omega))).symm:x=x%y)) (λh4=>have hyx:=(show y<=x from Nat.le_of_not_lt (mt zt.2 (by assumption)));have hly:=wM hyx;Sp (xk x=true) (λh5=>have hlx:=nl64 hx0;have hxx:=(xw_y hlx).1;have hxy:=(xw_y (x:=y) (nl64 hx1)).1;I (?_:0<xw y) (I (?_:0<xw y) (q4J (by rw[(xw_y (x:=x) (nl64 hx0)).1,(xw_y (x:=y) (nl64 hx1)).1]:(xw x)/(xw y)=x/y) (by rw[(xw_y (x:=x) (nl64 hx0)).1,(xw_y (x:=y) (nl64 hx1)).1]:(xw x)%(xw y)=x%y)))) (λh6=>(absurd (xw_y (nl64 hx0)).2 h6:False)))))⟩<;>omega)
abbrev q3j:Ctr Tryz.prog:=FI.c q3l
abbrev q3n:FI:=⟨279,[.mag,.mag],[(.n 64),(.n 64)],λ_=>[],λb z=>(λ(x:Nat)(y:Nat)=> .c (.one (.dt .mag (.n (max (b0 b).nb (b1 b).nb)) (Nat.gcd x y)))) z.1 z.2⟩
theorem q3o:q3n.OK Tryz.prog:=mkF hmix 51 Tryz.func279 rfl rfl (by decide) [(112,.c Ky),(130,.c SS),(329,.c OW)] (λ(x:Nat)(y:Nat) b hx hp=>qx (ZK (Bnds.h2 hx).1.mag (Bnds.h2 hx).2.mag) rfl) (λ(x:Nat)(y:Nat) hx hp=>by
 have hx0:qR x 64:=hx.1;have hl0:(limbs x).length<=3:=qE (q5z hx0);have hx1:qR y 64:=hx.2;have hl1:(limbs y).length<=3:=qE (q5z hx1)
 refine⟨.loop [.s 0 .mag (.n 64),.s 1 .mag (.n 64)] (λ((a,b):Nat×Nat)=>a=x/\b=y) (λ((a,b):Nat×Nat)=>0) (λ((a,b):Nat×Nat)=> .cond (.cond (.cond (.loop [.s 5 (.nat .u64) (.n 18446744073709551615),.s 7 (.nat .u64) (.n 18446744073709551615)] (λ((u,v):Nat×Nat)=>Nat.gcd u v=Nat.gcd x y) (λ((u,v):Nat×Nat)=>v) (λ((u,v):Nat×Nat)=> .nil)) (.dead)) (.dead)) (.nil)),kcast (by kernel_rfl) (I (⟨rfl,rfl⟩:x=x/\y=y) (λ(a:Nat)(b:Nat)(hb1:HB [.s 0 .mag (.n 64),.s 1 .mag (.n 64)] (a,b))(hC:a=x/\b=y)=>have ha2:=(nl64 (by rw[hC.1];exact hx0):(limbs a).length<=2);have hb2:=(nl64 (by rw[hC.2];exact hx1):(limbs b).length<=2);Sp (0<(limbs b).length) (λh2=>Sp (xk a=true) (λh3=>Sp (xk b=true) (λh4=>I (by rw[(xw_y ha2).1,(xw_y hb2).1,hC.1,hC.2]:Nat.gcd (xw a) (xw b)=Nat.gcd x y) (λ(u:Nat)(v:Nat)(hb5:HB [.s 5 (.nat .u64) (.n 18446744073709551615),.s 7 (.nat .u64) (.n 18446744073709551615)] (u,v))(hK:Nat.gcd u v=Nat.gcd x y)=>have hv8:=(show u<=18446744073709551615 from hb5.1);have hv9:=(show v<=18446744073709551615 from hb5.2);Sp (v≠0) (λh6=>I (?_:0<v) (q4J ((Nb u v).trans hK:Nat.gcd v (u%v)=Nat.gcd x y) (q5I _ (by omega):u%v<v))) (λh7=>(by rw[show v=0 by omega,Nat.gcd_zero_right]at hK;exact hK:u=Nat.gcd x y)))) (λh10=>(absurd (xw_y hb2).2 h10:False))) (λh11=>(absurd (xw_y ha2).2 h11:False))) (λh12=>(by have e:=nl0.1 (show(limbs b).length=0 by omega);rw[<-hC.1,<-hC.2,e,Nat.gcd_zero_right]:a=Nat.gcd x y))))⟩<;>omega)
abbrev q3m:Ctr Tryz.prog:=FI.c q3o
abbrev q0S:FI:=⟨57,[.rat],[(.n 31)],λ_=>[],λb z=>(λ(x:Rat)=> .c (.one (.dt (.int .i64) (.n 1) (jp x)))) z⟩
theorem QV:q0S.OK Tryz.prog:=mkF hmix 9 Tryz.func57 rfl rfl (by decide) [] (λ(x:Rat) b hx hp=>qx (Oh x) rfl) (λ(x:Rat) hx hp=>by
 refine⟨.nil,kcast (by kernel_rfl) (Sp ((limbs x.num.natAbs).length=0) (λh1=>(by rw[jp,if_pos (nl0.1 (by assumption))]:0=jp x)) (λh2=>Sp (x.num<0) (λh3=>(by rw[jp,if_neg (mt nl0.2 (by assumption)),if_pos (by assumption)]:(-1)=jp x)) (λh4=>(by rw[jp,if_neg (mt nl0.2 (by assumption)),if_neg (by assumption)]:1=jp x))))⟩)
abbrev q0R:Ctr Tryz.prog:=FI.c QV
abbrev q3A:FI:=⟨60,[.rat],[(.n 1099511627776)],λ_=>[],λb z=>(λ(x:Rat)=> .c (.one (.dt .mag (.n ((b0 b).nb+1)) (x.den)))) z⟩
theorem q3B:q3A.OK Tryz.prog:=mkF hmix 10 Tryz.func60 rfl rfl (by decide) [] (λ(x:Rat) b hx hp=>qx (K0 (Bnds.h1 hx).rat.2) rfl) (λ(x:Rat) hx hp=>by
 have hx0:Bnd .rat (.n 1099511627776) x:=hx
 refine⟨.cond (.h 2 0 (.mk (.im (.nat .u32) (.n 4294967295))) (.h 2 1 (.mag 1 1) (.nil))) (.h 3 1 (.mag x.den 1099511627777) (.nil)),kcast (by kernel_rfl) (Sp ((denL x.den).length=0) (λh1=>I (D4.symm:[1]=limbs 1) (I (K8 rfl:qR 1 1) (((El x.den_nz (by omega)).symm:1=x.den)))) (λh2=>I (Ix (by omega):denL x.den=limbs x.den) (I (K0 hx0.2:qR x.den 1099511627777) ((Eq.refl x.den)))))⟩)
abbrev JB:Ctr Tryz.prog:=FI.c q3B
abbrev q0U:FI:=⟨73,[(.int .i64)],[(.n 4611686018427387904)],λ_=>[],λb z=>(λ(v:Int)=> .tup [(.one (.dt .mag (.n (Nat.log2 (b0 b).nb+1)) (v.natAbs))),.one (.dt .bool .u (decide (v<0)))]) z⟩
theorem q0V:q0U.OK Tryz.prog:=mkF hmix 15 Tryz.func73 rfl rfl (by decide) [(130,.c SS)] (λ(v:Int) b hx hp=>je (qx (AD (Bnds.h1 hx).int) rfl) (je (qx trivial rfl) zx)) (λ(v:Int) hx hp=>by
 have hx0:Int.natAbs v<=4611686018427387904:=hx
 refine⟨.cond (.h 2 3 (.i (.n (v.natAbs-1) 4611686018427387904)) (.nil)) (.h 3 1 (.i (.n v.natAbs 4611686018427387904)) (.nil)),kcast (by kernel_rfl) (Sp (v<0) (λh1=>I (by rw[show-(v+1)=((v.natAbs-1:Nat):Int) by omega];exact BK (by omega):IntKind.wrap .u64 (-(v+1))=((v.natAbs-1:Nat):Int)) (I (?_:v.natAbs-1<=4611686018427387904) (q4J (?_:(v.natAbs-1)+1=v.natAbs) ((decide_eq_true (by assumption)).symm:true=decide (v<0))))) (λh2=>I (by rw[show v=((v.natAbs:Nat):Int) by omega];exact BK (by omega):IntKind.wrap .u64 v=((v.natAbs:Nat):Int)) (I (?_:v.natAbs<=4611686018427387904) (q4J (Eq.refl v.natAbs) ((decide_eq_false (by assumption)).symm:false=decide (v<0))))))⟩<;>omega)
abbrev q0T:Ctr Tryz.prog:=FI.c q0V
abbrev W0:FI:=⟨192,[.bool,.mag,.mag],[.u,(.n 64),(.n 64)],λz=>(λ(neg:Bool)(n:Nat)(d:Nat)=>[0<d]) z.1 z.2.1 z.2.2,λb z=>(λ(neg:Bool)(n:Nat)(d:Nat)=> .c (.agg [.dt .rat (.n (max (b1 b).nb (b2 b).nb)) (qw neg n d)])) z.1 z.2.1 z.2.2⟩
theorem W1:W0.OK Tryz.prog:=mkF hmix 55 Tryz.func192 rfl rfl (by decide) [(112,.c Ky),(279,.c q3m),(280,.c q3j)] (λ(neg:Bool)(n:Nat)(d:Nat) b hx hp=>jH (I0 (qr (Nat.le_max_left _ _) (Bnds.h3 hx).2.1.mag) (qr (Nat.le_max_right _ _) (Bnds.h3 hx).2.2.mag))) (λ(neg:Bool)(n:Nat)(d:Nat) hx hp=>by
 have hx1:qR n 64:=hx.2.1;have hl1:(limbs n).length<=3:=qE (q5z hx1);have hx2:qR d 64:=hx.2.2;have hl2:(limbs d).length<=3:=qE (q5z hx2);have hp0:0<d:=hp _ (q5f)
 refine⟨.cond (.nil) ((λ(g:Nat)=> .cond (.cond (.cond (.h 10 3 (.rat (qw neg n d) 64) (.nil)) (.h 10 3 (.rat (qw neg n d) 64) (.nil))) (.h 10 3 (.rat (qw neg n d) 64) (.nil))) (.cond (.cond (.cond (.h 10 3 (.rat (qw neg n d) 64) (.nil)) (.h 10 3 (.rat (qw neg n d) 64) (.nil))) (.h 10 3 (.rat (qw neg n d) 64) (.nil))) (.cond (.cond (.h 10 3 (.rat (qw neg n d) 64) (.nil)) (.h 10 3 (.rat (qw neg n d) 64) (.nil))) (.h 10 3 (.rat (qw neg n d) 64) (.nil))))) (Nat.gcd n d)),kcast (by kernel_rfl) (q4J (λ(h1:(limbs n).length=0)=>(by rw[nl0.1 (show(limbs n).length=0 by assumption),Be]:0=qw neg n d)) (λ(h2: ¬((limbs n).length=0))=>have hn0:=(show 0<n from q5Q (mt nl0.2 (by omega)));have hd0:=hp0;(λ(g:Nat)(hg:g=Nat.gcd n d)=>have hg0:=(show 0<g from hg▸Nat.gcd_pos_of_pos_right _ hd0);have hgl:=(q5Q (mt nl0.1 (show¬g=0 by omega)):0<(limbs g).length);q4J (λ(h3:(limbs g).length≠1)=>I (by omega:0<g) (I (by omega:0<g) (q4J (λ(h4:(limbs (d/g)).length=1)=>I (by omega:0<(limbs (d/g)).length) (q4J (λ(h5:(limbs (d/g)).getD 0 0=1)=>I ((zj hn0 hd0).symm:neg=decide ((qw neg n d).num<0)) (I (by rw[vA hd0,<-hg]<;>first|rfl|(rw[hg1,q5v]<;>rfl):n/g=(qw neg n d).num.natAbs) (I (by rw[(jL hd0).2,<-hg];first|exact CH (by omega) (by omega)|(rw[hg1,q5v];exact CH (by omega) (by omega)):(qw neg n d).den=1) (I ((jr (p:=64) (qr (by decide) hx1) (jI (qr (by decide) hx2)) hd0).1:qR (qw neg n d).num.natAbs 64) (I ((jr (p:=64) (qr (by decide) hx1) (jI (qr (by decide) hx2)) hd0).2:le2 (qw neg n d).den 64) ((Eq.refl (qw neg n d)))))))) (λ(h6: ¬((limbs (d/g)).getD 0 0=1))=>I ((zj hn0 hd0).symm:neg=decide ((qw neg n d).num<0)) (I (by rw[vA hd0,<-hg]<;>first|rfl|(rw[hg1,q5v]<;>rfl):n/g=(qw neg n d).num.natAbs) (I (Cd (by rw[(jL hd0).2,<-hg]<;>first|rfl|(rw[hg1,q5v]<;>rfl)) (by omega):limbs (d/g)=denL (qw neg n d).den) (I ((jr (p:=64) (qr (by decide) hx1) (jI (qr (by decide) hx2)) hd0).1:qR (qw neg n d).num.natAbs 64) (I ((jr (p:=64) (qr (by decide) hx1) (jI (qr (by decide) hx2)) hd0).2:le2 (qw neg n d).den 64) ((Eq.refl (qw neg n d)))))))))) (λ(h7: ¬((limbs (d/g)).length=1))=>I ((zj hn0 hd0).symm:neg=decide ((qw neg n d).num<0)) (I (by rw[vA hd0,<-hg]<;>first|rfl|(rw[hg1,q5v]<;>rfl):n/g=(qw neg n d).num.natAbs) (I (Cd (by rw[(jL hd0).2,<-hg]<;>first|rfl|(rw[hg1,q5v]<;>rfl)) (by omega):limbs (d/g)=denL (qw neg n d).den) (I ((jr (p:=64) (qr (by decide) hx1) (jI (qr (by decide) hx2)) hd0).1:qR (qw neg n d).num.natAbs 64) (I ((jr (p:=64) (qr (by decide) hx1) (jI (qr (by decide) hx2)) hd0).2:le2 (qw neg n d).den 64) ((Eq.refl (qw neg n d))))))))))) (λ(h8: ¬((limbs g).length≠1))=>I (by omega:0<(limbs g).length) (q4J (λ(h9:(limbs g).getD 0 0≠1)=>I (by omega:0<g) (I (by omega:0<g) (q4J (λ(h10:(limbs (d/g)).length=1)=>I (by omega:0<(limbs (d/g)).length) (q4J (λ(h11:(limbs (d/g)).getD 0 0=1)=>I ((zj hn0 hd0).symm:neg=decide ((qw neg n d).num<0)) (I (by rw[vA hd0,<-hg]<;>first|rfl|(rw[hg1,q5v]<;>rfl):n/g=(qw neg n d).num.natAbs) (I (by rw[(jL hd0).2,<-hg];first|exact CH (by omega) (by omega)|(rw[hg1,q5v];exact CH (by omega) (by omega)):(qw neg n d).den=1) (I ((jr (p:=64) (qr (by decide) hx1) (jI (qr (by decide) hx2)) hd0).1:qR (qw neg n d).num.natAbs 64) (I ((jr (p:=64) (qr (by decide) hx1) (jI (qr (by decide) hx2)) hd0).2:le2 (qw neg n d).den 64) ((Eq.refl (qw neg n d)))))))) (λ(h12: ¬((limbs (d/g)).getD 0 0=1))=>I ((zj hn0 hd0).symm:neg=decide ((qw neg n d).num<0)) (I (by rw[vA hd0,<-hg]<;>first|rfl|(rw[hg1,q5v]<;>rfl):n/g=(qw neg n d).num.natAbs) (I (Cd (by rw[(jL hd0).2,<-hg]<;>first|rfl|(rw[hg1,q5v]<;>rfl)) (by omega):limbs (d/g)=denL (qw neg n d).den) (I ((jr (p:=64) (qr (by decide) hx1) (jI (qr (by decide) hx2)) hd0).1:qR (qw neg n d).num.natAbs 64) (I ((jr (p:=64) (qr (by decide) hx1) (jI (qr (by decide) hx2)) hd0).2:le2 (qw neg n d).den 64) ((Eq.refl (qw neg n d)))))))))) (λ(h13: ¬((limbs (d/g)).length=1))=>I ((zj hn0 hd0).symm:neg=decide ((qw neg n d).num<0)) (I (by rw[vA hd0,<-hg]<;>first|rfl|(rw[hg1,q5v]<;>rfl):n/g=(qw neg n d).num.natAbs) (I (Cd (by rw[(jL hd0).2,<-hg]<;>first|rfl|(rw[hg1,q5v]<;>rfl)) (by omega):limbs (d/g)=denL (qw neg n d).den) (I ((jr (p:=64) (qr (by decide) hx1) (jI (qr (by decide) hx2)) hd0).1:qR (qw neg n d).num.natAbs 64) (I ((jr (p:=64) (qr (by decide) hx1) (jI (qr (by decide) hx2)) hd0).2:le2 (qw neg n d).den 64) ((Eq.refl (qw neg n d))))))))))) (λ(h14: ¬((limbs g).getD 0 0≠1))=>have hg1:=(CH (by omega) (by omega):g=1);q4J (λ(h15:(limbs d).length=1)=>I (by omega:0<(limbs d).length) (q4J (λ(h16:(limbs d).getD 0 0=1)=>I ((zj hn0 hd0).symm:neg=decide ((qw neg n d).num<0)) (I (by rw[vA hd0,<-hg]<;>first|rfl|(rw[hg1,q5v]<;>rfl):n=(qw neg n d).num.natAbs) (I (by rw[(jL hd0).2,<-hg];first|exact CH (by omega) (by omega)|(rw[hg1,q5v];exact CH (by omega) (by omega)):(qw neg n d).den=1) (I ((jr (p:=64) (qr (by decide) hx1) (jI (qr (by decide) hx2)) hd0).1:qR (qw neg n d).num.natAbs 64) (I ((jr (p:=64) (qr (by decide) hx1) (jI (qr (by decide) hx2)) hd0).2:le2 (qw neg n d).den 64) ((Eq.refl (qw neg n d)))))))) (λ(h17: ¬((limbs d).getD 0 0=1))=>I ((zj hn0 hd0).symm:neg=decide ((qw neg n d).num<0)) (I (by rw[vA hd0,<-hg]<;>first|rfl|(rw[hg1,q5v]<;>rfl):n=(qw neg n d).num.natAbs) (I (Cd (by rw[(jL hd0).2,<-hg]<;>first|rfl|(rw[hg1,q5v]<;>rfl)) (by omega):limbs d=denL (qw neg n d).den) (I ((jr (p:=64) (qr (by decide) hx1) (jI (qr (by decide) hx2)) hd0).1:qR (qw neg n d).num.natAbs 64) (I ((jr (p:=64) (qr (by decide) hx1) (jI (qr (by decide) hx2)) hd0).2:le2 (qw neg n d).den 64) ((Eq.refl (qw neg n d)))))))))) (λ(h18: ¬((limbs d).length=1))=>I ((zj hn0 hd0).symm:neg=decide ((qw neg n d).num<0)) (I (by rw[vA hd0,<-hg]<;>first|rfl|(rw[hg1,q5v]<;>rfl):n=(qw neg n d).num.natAbs) (I (Cd (by rw[(jL hd0).2,<-hg]<;>first|rfl|(rw[hg1,q5v]<;>rfl)) (by omega):limbs d=denL (qw neg n d).den) (I ((jr (p:=64) (qr (by decide) hx1) (jI (qr (by decide) hx2)) hd0).1:qR (qw neg n d).num.natAbs 64) (I ((jr (p:=64) (qr (by decide) hx1) (jI (qr (by decide) hx2)) hd0).2:le2 (qw neg n d).den 64) ((Eq.refl (qw neg n d)))))))))))) (Nat.gcd n d) rfl))⟩)
abbrev Gd:Ctr Tryz.prog:=FI.c W1
abbrev q3C:FI:=⟨33,[(.int .i64)],[(.n 4611686018427387904)],λ_=>[],λb z=>(λ(v:Int)=> .c (.agg [.dt .rat (.n (Nat.log2 (b0 b).nb+1)) ((v:Rat))])) z⟩
theorem q3D:q3C.OK Tryz.prog:=mkF hmix 13 Tryz.func33 rfl rfl (by decide) [(73,.c q0T)] (λ(v:Int) b hx hp=>jH (PQ (Bnds.h1 hx).int)) (λ(v:Int) hx hp=>by
 have hx0:Int.natAbs v<=4611686018427387904:=hx
 refine⟨.h 2 2 (.rat (v:Rat) 64) (.nil),kcast (by kernel_rfl) (I (by rw[C7]:decide (v<0)=decide ((v:Rat).num<0)) (I (by rw[C7]:v.natAbs=(v:Rat).num.natAbs) (I (Gw v:(v:Rat).den=1) (I (by rw[C7];exact q5D hx0 (by decide):qR (v:Rat).num.natAbs 64) (I (by rw[Gw];exact Nat.one_le_two_pow:le2 (v:Rat).den 64) ((Eq.refl (v:Rat))))))))⟩)
abbrev q0P:FI:=⟨63,[.rat,.rat],[(.n 31),(.n 31)],λ_=>[],λb z=>(λ(x:Rat)(y:Rat)=> .c (.one (.dt .bool .u (decide (x=y))))) z.1 z.2⟩
theorem q0Q:q0P.OK Tryz.prog:=mkF hmix 26 Tryz.func63 rfl rfl (by decide) [(58,.c Gc)] (λ(x:Rat)(y:Rat) b hx hp=>qx trivial rfl) (λ(x:Rat)(y:Rat) hx hp=>by
 have hx0:Bnd .rat (.n 31) x:=hx.1;have hx1:Bnd .rat (.n 31) y:=hx.2
 refine⟨.cond (.cond (.h 1 15 (.mag (dm x.den) 32) (.h 1 17 (.mag (dm y.den) 32) (.nil))) (.nil)) (.nil),kcast (by kernel_rfl) (Sp ((decide (x.num<0))=(decide (y.num<0))) (λh1=>Sp (j9 x.num.natAbs y.num.natAbs=0) (λh2=>I (Px _:denL x.den=limbs (dm x.den)) (I (Tt hx0.2:qR (dm x.den) 32) (I (Px _:denL y.den=limbs (dm y.den)) (I (Tt hx1.2:qR (dm y.den) 32) ((q3K (by assumption) (by assumption):decide (j9 (dm x.den) (dm y.den)=0)=decide (x=y))))))) (λh3=>(ysame (by first|exact .inl (by assumption)|exact .inr (.inl (by assumption))):false=decide (x=y)))) (λh4=>(ysame (by first|exact .inl (by assumption)|exact .inr (.inl (by assumption))):false=decide (x=y))))⟩)
abbrev q3H:FI:=⟨64,[.rat],[(.n 31)],λ_=>[],λb z=>(λ(x:Rat)=> .c (.agg [.dt .rat (.n ((b0 b).nb)) (-x)])) z⟩
theorem VZ:q3H.OK Tryz.prog:=mkF hmix 14 Tryz.func64 rfl rfl (by decide) [] (λ(x:Rat) b hx hp=>jH (wy (Bnds.h1 hx))) (λ(x:Rat) hx hp=>by
 refine⟨.cond (.h 2 0 (.rat (-x) 31) (.nil)) (.h 2 0 (.rat (-x) 31) (.nil)),kcast (by kernel_rfl) (Sp (¬(x.num<0)) (λh1=>I (?_:decide (0<(limbs x.num.natAbs).length)=decide ((-x).num<0)) (I ((Ka x).symm:x.num.natAbs=(-x).num.natAbs) (I (by rw[Rat.neg_den]:denL x.den=denL (-x).den) (I ((wy hx).1:qR (-x).num.natAbs 31) (I ((wy hx).2:le2 (-x).den 31) ((Eq.refl (-x)))))))) (λh2=>I (?_:false=decide ((-x).num<0)) (I ((Ka x).symm:x.num.natAbs=(-x).num.natAbs) (I (by rw[Rat.neg_den]:denL x.den=denL (-x).den) (I ((wy hx).1:qR (-x).num.natAbs 31) (I ((wy hx).2:le2 (-x).den 31) ((Eq.refl (-x)))))))))⟩<;>first|(first|exact q1O (by assumption)|exact q1P (by omega)))
abbrev q3G:Ctr Tryz.prog:=FI.c VZ
abbrev q3x:FI:=⟨119,[.rat,.rat],[(.n 31),(.n 31)],λ_=>[],λb z=>(λ(x:Rat)(y:Rat)=> .c (.agg [.dt .rat (.n ((b0 b).nb+(b1 b).nb+1)) (x+y)])) z.1 z.2⟩
theorem VY:q3x.OK Tryz.prog:=mkF hmix 75 Tryz.func119 rfl rfl (by decide) [(58,.c Gc),(59,.c Jz),(60,.c JB),(192,.c Gd),(193,.c q3e),(194,.c q3r)] (λ(x:Rat)(y:Rat) b hx hp=>jH (Hj (Bnds.h2 hx).1 (Bnds.h2 hx).2)) (λ(x:Rat)(y:Rat) hx hp=>by
 refine⟨.nil,kcast (by kernel_rfl) (Sp ((limbs x.num.natAbs).length=0) (λh1=>(by rw[Au (x:=x) (nl0.1 (by assumption)),Rat.zero_add]:y=x+y)) (λh2=>Sp ((limbs y.num.natAbs).length=0) (λh3=>(by rw[Au (x:=y) (nl0.1 (by assumption)),Rat.add_zero]:x=x+y)) (λh4=>have hqx:=q5Q x.den_nz;have hqy:=q5Q y.den_nz;have hqp:=q5P hqx hqy;Sp ((decide (x.num<0))=(decide (y.num<0))) (λh5=>I (hqp:0<x.den*y.den) ((by rw[show x+y=x+yQ (decide (y.num<0)) y by rw[Bj]];first|(have hs:decide (x.num<0)=decide (y.num<0):=(by assumption);rw[hs];exact Fa hs)|exact F8 (by assumption) (Nat.le_of_not_lt (mt zt.2 (by assumption)))|exact F9 (by assumption) (by have h:=zt.1 (show j9 (x.num.natAbs*y.den) (y.num.natAbs*x.den)<0 by assumption);omega):qw (decide (x.num<0)) ((x.num.natAbs*y.den)+(y.num.natAbs*x.den)) (x.den*y.den)=x+y))) (λh6=>Sp (j9 (x.num.natAbs*y.den) (y.num.natAbs*x.den)<0) (λh7=>I (hqp:0<x.den*y.den) ((by rw[show x+y=x+yQ (decide (y.num<0)) y by rw[Bj]];first|(have hs:decide (x.num<0)=decide (y.num<0):=(by assumption);rw[hs];exact Fa hs)|exact F8 (by assumption) (Nat.le_of_not_lt (mt zt.2 (by assumption)))|exact F9 (by assumption) (by have h:=zt.1 (show j9 (x.num.natAbs*y.den) (y.num.natAbs*x.den)<0 by assumption);omega):qw (decide (y.num<0)) ((y.num.natAbs*x.den) -(x.num.natAbs*y.den)) (x.den*y.den)=x+y))) (λh8=>I (hqp:0<x.den*y.den) ((by rw[show x+y=x+yQ (decide (y.num<0)) y by rw[Bj]];first|(have hs:decide (x.num<0)=decide (y.num<0):=(by assumption);rw[hs];exact Fa hs)|exact F8 (by assumption) (Nat.le_of_not_lt (mt zt.2 (by assumption)))|exact F9 (by assumption) (by have h:=zt.1 (show j9 (x.num.natAbs*y.den) (y.num.natAbs*x.den)<0 by assumption);omega):qw (decide (x.num<0)) ((x.num.natAbs*y.den) -(y.num.natAbs*x.den)) (x.den*y.den)=x+y)))))))⟩)
abbrev q3w:Ctr Tryz.prog:=FI.c VY
abbrev q3L:FI:=⟨118,[.rat,.rat],[(.n 31),(.n 31)],λ_=>[],λb z=>(λ(x:Rat)(y:Rat)=> .c (.agg [.dt .rat (.n ((b0 b).nb+(b1 b).nb+1)) (x-y)])) z.1 z.2⟩
theorem q3M:q3L.OK Tryz.prog:=mkF hmix 9 Tryz.func118 rfl rfl (by decide) [(64,.c q3G),(119,.c q3w)] (λ(x:Rat)(y:Rat) b hx hp=>jH (Oq (Bnds.h2 hx).1 (Bnds.h2 hx).2)) (λ(x:Rat)(y:Rat) hx hp=>by
 refine⟨.nil,kcast (by kernel_rfl) ((by rw[Rat.sub_eq_add_neg]:x+(-y)=x-y))⟩)
abbrev q3E:FI:=⟨120,[.rat,.rat],[(.n 31),(.n 31)],λ_=>[],λb z=>(λ(x:Rat)(y:Rat)=> .c (.agg [.dt .rat (.n ((b0 b).nb+(b1 b).nb)) (x*y)])) z.1 z.2⟩
theorem q3F:q3E.OK Tryz.prog:=mkF hmix 21 Tryz.func120 rfl rfl (by decide) [(59,.c Jz),(60,.c JB),(192,.c Gd)] (λ(x:Rat)(y:Rat) b hx hp=>jH (Dw (Bnds.h2 hx).1 (Bnds.h2 hx).2)) (λ(x:Rat)(y:Rat) hx hp=>by
 have hqp:=q5P (q5Q x.den_nz) (q5Q y.den_nz)
 refine⟨.nil,kcast (by kernel_rfl) (have hqx:=q5Q x.den_nz;have hqy:=q5Q y.den_nz;have hqp:=q5P hqx hqy;I (hqp:0<x.den*y.den) ((DU x y:qw (decide ((decide (x.num<0))≠(decide (y.num<0)))) (x.num.natAbs*y.num.natAbs) (x.den*y.den)=x*y)))⟩)
abbrev q3I:FI:=⟨203,[.rat,.rat],[(.n 31),(.n 31)],λ_=>[],λb z=>(λ(x:Rat)(y:Rat)=> .tup [.agg [.dt .rat (.n ((b0 b).nb+(b1 b).nb)) (x/y)],.one (.dt (.int .i64) (.n 3) (quoC y))]) z.1 z.2⟩
theorem q3J:q3I.OK Tryz.prog:=mkF hmix 27 Tryz.func203 rfl rfl (by decide) [(59,.c Jz),(60,.c JB),(192,.c Gd)] (λ(x:Rat)(y:Rat) b hx hp=>je (jH (Qq (Bnds.h2 hx).1 (Bnds.h2 hx).2)) (je (qx (UF y) rfl) zx)) (λ(x:Rat)(y:Rat) hx hp=>by
 refine⟨.nil,kcast (by kernel_rfl) (Sp ((limbs y.num.natAbs).length=0) (λh1=>q4J (Yn (nl0.1 (by assumption)):0=x/y) ((if_pos (nl0.1 (by assumption))).symm:3=quoC y)) (λh2=>have hy0:=(mt nl0.2 (by assumption): ¬y.num.natAbs=0);I (q5P (q5Q x.den_nz) (q5Q hy0):0<x.den*y.num.natAbs) (q4J (FZ hy0:qw (decide ((decide (x.num<0))≠(decide (y.num<0)))) (x.num.natAbs*y.den) (x.den*y.num.natAbs)=x/y) ((if_neg hy0).symm:0=quoC y))))⟩)
abbrev q3y:FI:=⟨30,[.rat,.rat],[(.n 31),(.n 31)],λ_=>[],λb z=>(λ(x:Rat)(y:Rat)=> .c (.one (.dt (.int .i64) (.n 1) (cmpQ x y)))) z.1 z.2⟩
theorem q3z:q3y.OK Tryz.prog:=mkF hmix 34 Tryz.func30 rfl rfl (by decide) [(57,.c q0R),(58,.c Gc),(59,.c Jz),(60,.c JB)] (λ(x:Rat)(y:Rat) b hx hp=>qx (MQ x y) rfl) (λ(x:Rat)(y:Rat) hx hp=>by
 refine⟨.nil,kcast (by kernel_rfl) (Sp (jp x≠jp y) (λh1=>Sp (jp x<jp y) (λh2=>(?_:(-1)=cmpQ x y)) (λh3=>(?_:1=cmpQ x y))) (λh4=>have hs:=(show jp x=jp y by omega);Sp (x.num<0) (λh5=>(?_: -(j9 (x.num.natAbs*y.den) (y.num.natAbs*x.den))=cmpQ x y)) (λh6=>(?_:j9 (x.num.natAbs*y.den) (y.num.natAbs*x.den)=cmpQ x y))))⟩<;>first|(first|exact((Gm (by assumption)).1 (by assumption)).symm|exact((Gm (by assumption)).2 (by assumption)).symm|exact(Pq hs (by assumption)).symm|exact(Pr hs (by assumption)).symm))
abbrev q1W:FI:=⟨181,[.rat],[(.n 1099511627776)],λ_=>[],λb z=>(λ(x:Rat)=> .c (.agg [.dt .rat (b0 b) x])) z⟩
theorem q1X:q1W.OK Tryz.prog:=mkF hmix 12 Tryz.func181 rfl rfl (by decide) [(269,.c MP)] (λ(x:Rat) b hx hp=>SX (Bnds.h1 hx)) (λ(x:Rat) hx hp=>by
 have hx0:Bnd .rat (.n 1099511627776) x:=hx
 refine⟨.h 1 7 (.c Cn) (.h 1 8 (.rat x 1099511627776) (.nil)),kcast (by kernel_rfl) (I (Eq.refl (decide (x.num<0))) (I (Eq.refl x.num.natAbs) (I (Eq.refl (denL x.den)) (I (hx0.1:qR x.num.natAbs 1099511627776) (I (hx0.2:le2 x.den 1099511627776) ((Eq.refl x)))))))⟩)
def smlV(x:Rat):Int:=if x.den=1/\x.num.natAbs<4294967296 then x.num else 0
def smlB(x:Rat):Bool:=decide (x.den=1/\x.num.natAbs<268435456)
theorem q2X(x:Rat):(smlV x).natAbs<=4294967296:=by
 unfold smlV;split
 .rename_i h;exact q5z h.2
 .decide
theorem HE{n:Nat}(h:0<n):0<(limbs n).length:=by rw[vM (by omega)];simp
theorem Uc{n:Nat}(h:n<4294967296):(limbs n).length<=1:=by
 by_cases h0:n=0
 .subst h0;decide
 .rw[vM (by omega),show n/4294967296=0 by omega,show limbs 0=[]from by decide]
  exact q5B 1
theorem L6{n:Nat}(h:(limbs n).length<=1):n<4294967296/\(limbs n).getD 0 0=n:=by
 by_cases h0:n=0
 .subst h0;exact⟨by decide,by decide⟩
 .have hp:0<n:=by omega
  rw[vM (by omega)]at h⊢;have h1:(limbs (n/4294967296)).length=0:=by simp at h;simp[h]
  have h2:n/4294967296=0:=by
   by_cases h3:0<n/4294967296
   .have:=HE h3;omega
   .omega
  refine⟨by omega,?_⟩;simp;omega
theorem JK{x:Rat}(h: ¬0<(denL x.den).length):x.den=1:=by
 unfold denL at h;split at h
 .assumption
 .exact absurd (HE (q5Q x.den_nz)) h
theorem Wo{x:Rat}(h:0<(denL x.den).length):x.den≠1:=λe=>by rw[e]at h;simp[denL]at h
theorem sm_1{x:Rat}(h:0<(denL x.den).length):0=smlV x/\false=smlB x:=by
 have:=Wo h;exact⟨(if_neg λe=>this e.1).symm,(decide_eq_false λe=>this e.1).symm⟩
theorem sm_2{x:Rat}(h:1<(limbs x.num.natAbs).length):0=smlV x/\false=smlB x:=by
 have: ¬x.num.natAbs<4294967296:=λe=>by have:=Uc e;omega
 exact⟨(if_neg λe=>this e.2).symm,(decide_eq_false λe=>this (by omega)).symm⟩
theorem sm_3{x:Rat}(h: ¬0<(denL x.den).length)(h0:(limbs x.num.natAbs).length=0):0=smlV x/\true=smlB x:=by
 have e0:x.num.natAbs=0:=by
  by_cases h1:0<x.num.natAbs
  .have:=HE h1;omega
  .omega
 have e1:x.num=0:=by omega
 have:=JK h;refine⟨?_,(decide_eq_true ⟨this,by omega⟩).symm⟩;unfold smlV;rw[if_pos ⟨this,by omega⟩,e1]
theorem sm_4{x:Rat}(h: ¬0<(denL x.den).length)(h1: ¬1<(limbs x.num.natAbs).length)(h2:x.num<0): -(((limbs x.num.natAbs).getD 0 0:Nat):Int)=smlV x/\decide ((limbs x.num.natAbs).getD 0 0<268435456)=smlB x:=by
 obtain⟨e1,e2⟩:=L6 (n:=x.num.natAbs) (by omega);have:=JK h;rw[e2];refine⟨?_,?_⟩
 .unfold smlV;rw[if_pos ⟨this,e1⟩];omega
 .unfold smlB;simp[this]
theorem sm_5{x:Rat}(h: ¬0<(denL x.den).length)(h1: ¬1<(limbs x.num.natAbs).length)(h2: ¬x.num<0):(((limbs x.num.natAbs).getD 0 0:Nat):Int)=smlV x/\decide ((limbs x.num.natAbs).getD 0 0<268435456)=smlB x:=by
 obtain⟨e1,e2⟩:=L6 (n:=x.num.natAbs) (by omega);have:=JK h;rw[e2];refine⟨?_,?_⟩
 .unfold smlV;rw[if_pos ⟨this,e1⟩];omega
 .unfold smlB;simp[this]
def absQ(x:Rat):Rat:=if x.num<0 then-x else x
theorem Mq(x:Rat):(absQ x).num=(x.num.natAbs:Int):=by
 unfold absQ;split
 .rw[Rat.neg_num];omega
 .omega
theorem Hi(x:Rat):false=decide ((absQ x).num<0):=by
 symm;apply decide_eq_false;rw[Mq];omega
theorem E7(x:Rat):x.num.natAbs=(absQ x).num.natAbs:=by rw[Mq];omega
theorem JD(x:Rat):(absQ x).den=x.den:=by
 unfold absQ;split
 .rw[Rat.neg_den]
 .rfl
theorem Mo(x:Rat):denL x.den=denL (absQ x).den:=by rw[JD]
theorem B1{b:Bd}{x:Rat}(h:Bnd .rat b x):Bnd .rat b (absQ x):=by
 cases b with
 |n m=>exact⟨by rw[<-E7];exact h.1,by rw[JD];exact h.2⟩
 |_=>exact h.elim
def zY:Rat:=⟨1,2,by decide,by decide⟩
theorem Nj:Bnd .rat (.n 2) zY:=⟨by show 1<2^2;decide,by show 2<=2^2;decide⟩
theorem WL:[2]=denL zY.den:=by show[2]=denL 2;decide
theorem WK{b c:Bd}{x y:Rat}(hx:Bnd .rat b x)(hy:Bnd .rat c y):Bnd .rat (.n (b.nb+c.nb+3)) ((x+y)*zY):=Dw (Hj hx hy) Nj
abbrev Kk:FI:=⟨172,[(.int .i64),(.int .i64)],[(.n 4611686018427387904),(.n 4611686018427387904)],λ_=>[],λb z=>(λ(u:Int)(v:Int)=> .tup [.agg [.dt .rat (.n (max (Nat.log2 (b0 b).nb+1) (Nat.log2 (b1 b).nb+1))) ((u:Rat)/(v:Rat))],.one (.dt (.int .i64) (.n 3) (mkC' v))]) z.1 z.2⟩
theorem q0g:Kk.OK Tryz.prog:=mkF hmix 19 Tryz.func172 rfl rfl (by decide) [(261,.c O7),(262,.c QA)] (λ(u:Int)(v:Int) b hx hp=>je (jH (WQ (Bnds.h2 hx).1.int (Bnds.h2 hx).2.int)) (je (qx (q4i v) rfl) zx)) (λ(u:Int)(v:Int) hx hp=>by
 refine⟨.nil,kcast (by kernel_rfl) (Sp (v=0) (λh1=>q4J (by rw[show v=0 by assumption];simp[Rat.div_def]:0=((u:Int):Rat)/((v:Int):Rat)) ((if_pos (by assumption)).symm:3=mkC' v)) (λh2=>q4J (Q7 u v:qw (decide ((decide (u<0))≠(decide (v<0)))) u.natAbs v.natAbs=((u:Int):Rat)/((v:Int):Rat)) ((if_neg (by assumption)).symm:0=mkC' v)))⟩)
section
section
variable {P:Program}
end
end
abbrev q2p:FI:=⟨230,[.rat],[(.n 31)],λ_=>[],λb z=>(λ(x:Rat)=> .tup [.one (.dt (.int .i64) (.n 4294967296) (smlV x)),.one (.dt .bool .u (smlB x))]) z⟩
theorem q2q:q2p.OK Tryz.prog:=mkF hmix 33 Tryz.func230 rfl rfl (by decide) [] (λ(x:Rat) b hx hp=>je (qx (q2X x) rfl) (je (qx trivial rfl) zx)) (λ(x:Rat) hx hp=>by
 refine⟨.nil,kcast (by kernel_rfl) (Sp (0<(denL x.den).length) (λh1=>q4J ((sm_1 h1).1:0=smlV x) ((sm_1 h1).2:false=smlB x)) (λh2=>Sp (1<(limbs x.num.natAbs).length) (λh3=>q4J ((sm_2 h3).1:0=smlV x) ((sm_2 h3).2:false=smlB x)) (λh4=>Sp ((limbs x.num.natAbs).length=0) (λh5=>q4J ((sm_3 h2 h5).1:0=smlV x) ((sm_3 h2 h5).2:true=smlB x)) (λh6=>I (?_:0<(limbs x.num.natAbs).length) (Sp (x.num<0) (λh7=>q4J ((sm_4 h2 h4 h7).1: -(((limbs x.num.natAbs).getD 0 0:Nat):Int)=smlV x) ((sm_4 h2 h4 h7).2:decide ((limbs x.num.natAbs).getD 0 0<268435456)=smlB x)) (λh8=>q4J ((sm_5 h2 h4 h8).1:(((limbs x.num.natAbs).getD 0 0:Nat):Int)=smlV x) ((sm_5 h2 h4 h8).2:decide ((limbs x.num.natAbs).getD 0 0<268435456)=smlB x)))))))⟩<;>omega)
abbrev q2w:FI:=⟨221,[.rat],[(.n 31)],λ_=>[],λb z=>(λ(x:Rat)=> .c (.agg [.dt .rat (b0 b) (absQ x)])) z⟩
theorem q2x:q2w.OK Tryz.prog:=mkF hmix 7 Tryz.func221 rfl rfl (by decide) [(268,.c Ln)] (λ(x:Rat) b hx hp=>jH (B1 (Bnds.h1 hx))) (λ(x:Rat) hx hp=>by
 have hx0:Bnd .rat (.n 31) x:=hx;have hx0:Bnd .rat (.n 31) x:=hx
 refine⟨.h 3 0 (.rat (absQ x) 31) (.nil),kcast (by kernel_rfl) (I ((Hi x):false=decide ((absQ x).num<0)) (I ((E7 x):x.num.natAbs=(absQ x).num.natAbs) (I ((Mo x):denL x.den=denL (absQ x).den) (I ((B1 hx0).1:qR (absQ x).num.natAbs 31) (I ((B1 hx0).2:le2 (absQ x).den 31) ((Eq.refl (absQ x))))))))⟩)
abbrev q3u:FI:=⟨204,[.rat],[(.n 31)],λ_=>[],λb z=>(λ(x:Rat)=> .c (.agg [.dt .rat (b0 b) (absQ x)])) z⟩
theorem q3v:q3u.OK Tryz.prog:=mkF hmix 5 Tryz.func204 rfl rfl (by decide) [] (λ(x:Rat) b hx hp=>jH (B1 (Bnds.h1 hx))) (λ(x:Rat) hx hp=>by
 have hx0:Bnd .rat (.n 31) x:=hx;have hx0:Bnd .rat (.n 31) x:=hx
 refine⟨.h 2 0 (.rat (absQ x) 31) (.nil),kcast (by kernel_rfl) (I ((Hi x):false=decide ((absQ x).num<0)) (I ((E7 x):x.num.natAbs=(absQ x).num.natAbs) (I ((Mo x):denL x.den=denL (absQ x).den) (I ((B1 hx0).1:qR (absQ x).num.natAbs 31) (I ((B1 hx0).2:le2 (absQ x).den 31) ((Eq.refl (absQ x))))))))⟩)
theorem q1M{x:Rat}(h: ¬x.num<0):decide (0<(limbs x.num.natAbs).length)=decide ((-x).num<0):=by
 rw[Rat.neg_num];apply decide_eq_decide.2;have:=nl0 (x:=x.num.natAbs);omega
theorem q1N{x:Rat}(h: ¬ ¬x.num<0):false=decide ((-x).num<0):=by
 rw[Rat.neg_num];symm;apply decide_eq_false;omega
abbrev q2N:FI:=⟨180,[.rat],[(.n 31)],λ_=>[],λb z=>(λ(x:Rat)=> .c (.agg [.dt .rat (.n (b0 b).nb) (-x)])) z⟩
theorem q2O:q2N.OK Tryz.prog:=mkF hmix 16 Tryz.func180 rfl rfl (by decide) [(268,.c Ln)] (λ(x:Rat) b hx hp=>jH (wy (Bnds.h1 hx))) (λ(x:Rat) hx hp=>by
 have hx0:Bnd .rat (.n 31) x:=hx;have hx0:Bnd .rat (.n 31) x:=hx
 refine⟨.cond (.h 3 0 (.rat (-x) 31) (.nil)) (.h 3 0 (.rat (-x) 31) (.nil)),kcast (by kernel_rfl) (Sp (¬(x.num<0)) (λh1=>I (q1M (by assumption):decide (0<(limbs x.num.natAbs).length)=decide ((-x).num<0)) (I (by rw[Rat.neg_num,Int.natAbs_neg]:x.num.natAbs=(-x).num.natAbs) (I (by rw[Rat.neg_den]:denL x.den=denL (-x).den) (I ((wy hx0).1:qR (-x).num.natAbs 31) (I ((wy hx0).2:le2 (-x).den 31) ((Eq.refl (-x)))))))) (λh2=>I (q1N (by assumption):false=decide ((-x).num<0)) (I (by rw[Rat.neg_num,Int.natAbs_neg]:x.num.natAbs=(-x).num.natAbs) (I (by rw[Rat.neg_den]:denL x.den=denL (-x).den) (I ((wy hx0).1:qR (-x).num.natAbs 31) (I ((wy hx0).2:le2 (-x).den 31) ((Eq.refl (-x)))))))))⟩)
abbrev q2J:FI:=⟨223,[.rat,.rat],[(.n 14),(.n 14)],λ_=>[],λb z=>(λ(x:Rat)(y:Rat)=> .c (.agg [.dt .rat (.n ((b0 b).nb+(b1 b).nb+3)) ((x+y)*zY)])) z.1 z.2⟩
theorem q2K:q2J.OK Tryz.prog:=mkF hmix 12 Tryz.func223 rfl rfl (by decide) [(225,.c q2L),(254,.c q0a),(267,.c UP)] (λ(x:Rat)(y:Rat) b hx hp=>jH (WK (Bnds.h2 hx).1 (Bnds.h2 hx).2)) (λ(x:Rat)(y:Rat) hx hp=>by
 refine⟨.h 1 4 (.mk (.im (.nat .u32) (.n 4294967295))) (.h 1 5 (.rat zY 2) (.nil)),kcast (by kernel_rfl) (I (rfl:false=decide (zY.num<0)) (I (rfl:1=zY.num.natAbs) (I (WL:[2]=denL zY.den) (I (Nj.1:qR zY.num.natAbs 2) (I (Nj.2:le2 zY.den 2) ((Eq.refl ((x+y)*zY))))))))⟩)
end Go.Proofs.YtamiaelfnfnegaaGreatDoor.Sx
