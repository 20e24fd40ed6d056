/-
Own laws, part 5. No condition.
-/
import Derived.Test.YtajflbhmdcgkmaaGreatH4
import Derived.RangeFuncNested
import Derived.RangeFuncLeaves
import Derived.Shelf.Abstract
import Derived.WalkKit
import Derived.OwnWalkIn
import Derived.TacticsInMore
import Derived.LoopNIn
import Derived.LoopIn
import Derived.Test.YtajflbhmdcgkmaaGreatChecked
import Derived.RangeFuncKeeps
namespace Go.Proofs.YtajflbhmdcgkmaaGreat.Sx
open Go Go.Proofs
set_option linter.unusedVariables false
set_option linter.unusedSimpArgs false
set_option maxRecDepth 20000
set_option maxHeartbeats 4000000
open Go Go.Proofs Go.RowKit Go.Shelf
attribute [local go_sem] Oper.semAt_some
theorem MF{N k:Nat}(h:k<N):(List.finRange N).take k++[⟨k,h⟩]=(List.finRange N).take (k+1):=by
 rw[q60 (by simpa using h)];simp
def KpU(U:Nat->Prop)(A B:World):Prop:= ∀i,U i->B.heap[i]?=A.heap[i]?
theorem KpU.refl{U:Nat->Prop}(A:World):KpU U A A:=λ_ _=>rfl
theorem KpU.trans{U:Nat->Prop}{A B C:World}(h:KpU U A B)(k:KpU U B C):KpU U A C:=λi hi=>(k i hi).trans (h i hi)
theorem KpU.cell{U:Nat->Prop}{A B:World}(h:KpU U A B){p:Addr}(hp:U p.block):B.cell? p=A.cell? p:=World.cell?_of_block (h _ hp)
theorem KpU.put{U:Nat->Prop}{n₀:Nat}(hU: ∀i,U i->i<n₀)(W:World)(l:Nat)(o o':Obj)(hl:n₀<=l)(h:W.heap[l]?=some o)(_:o.isCells=false)(_:o.isWalk=false):KpU U W (W.putObj l o'):=λi hi=>(grownBy_putObj' W l o').block i (by have:=hU i hi;have:=(q6L.1 h).1;omega) (λe=>by cases e;have:=hU _ hi;omega)
theorem FM{w:World}{b o:Nat}{arr:Array Value}(h: ∃T fz,w.heap[b]?=some (.cells arr T fz)):w.cell? ⟨b,o,none⟩=arr[o]?:=by
 obtain⟨T,fz,h⟩:=h;simp[World.cell?,h]
set_option maxRecDepth 100000 in
set_option maxHeartbeats 2000000 in
theorem Vp(n:Nat)(hn:1<=n)(U:Nat->Prop)(l Bn on N:Nat)(a:Option Addr)(c:Nat)(X:Nat->Nat->Value)
  (J Jx:List (Fin N)->World->Prop)
  (hY: ∀pre(x:Fin N) W1,J pre W1->pre.length<N->YieldAt Fence.wide (n-1) Pg l #[.int .i64 ((N:Int) -1-x.val),.agg #[X (N-1-x.val) 0,X (N-1-x.val) 1,X (N-1-x.val) 2]] W1 λe W'=>(e= .returned (.bool true)/\J (pre++[x]) W'/\KpU U W1 W')\/(e= .returned (.bool false)/\Jx (pre++[x]) W'))
  (W:World)(hBn0:U Bn)(hBn:W.cell? ⟨Bn,on,none⟩=some (.slice a N c))(hE: ∀i,i<N-> ∃b off,a=some ⟨b,off,none⟩/\U b/\ ∀j,j<3->W.cell? ⟨b,off+i*3+j,none⟩=some (X i j))(h0:J [] W)(hw1:wrap64 ((N:Int) -1)=(N:Int) -1)(hw2: ∀k:Nat,k<N->wrap64 ((N:Int) -1-k-1)=(N:Int) -1-k-1):
  CallsIn Fence.wide n Pg 230 #[.func (.yield l) #[] #[],.pointer (some ⟨Bn,on,none⟩)] W λe W'=>(∃v,e= .returned v)/\
   ((∃ys,ys=List.finRange N/\J ys W')\/(∃pre,True/\Jx pre W')):=by
 refine callsIn_of_wp Tryz.func230 rfl trivial ?_ rfl;simp only[Tryz.ntmps230,List.size_toArray,q5H,q5K,Nat.reduceAdd,Nat.reduceSub,Array.replicate_succ,Array.replicate_zero,List.push_toArray,List.append_toArray,q5V,List.cons_append]
 gi_wp2
 gi_loopw [3] (λp wr=> ∃k:Nat,k<=N/\p= .int .i64 ((N:Int) -1-k)/\J ((List.finRange N).take k) wr/\KpU U W wr)
  (λp _=>(intOf p+1).toNat)
 case atStart=>exact⟨0,q6A _,by rw[hw1];simp,by simpa using h0,KpU.refl _⟩
 case round=>
  clear hw1;obtain⟨k,hk,rfl,hJ,hB⟩:=hrel;by_cases hN:k<N
  .have hge:(0:Int)<=(N:Int) -1-k:=by omega
   have hlen:((List.finRange N).take k).length=k:=by simp;omega
   obtain⟨fn,tmps,assign,body,hy,hR⟩:=hY ((List.finRange N).take k) ⟨k,hN⟩ wr hJ (by omega);obtain⟨b,off,rfl,hb,hx⟩:=hE (N-1-k) (by omega);have g0:=(hB.cell (p:=⟨b,off+(N-1-k)*3,none⟩) hb).trans (hx 0 (by omega));have g1:=(hB.cell (p:=⟨b,off+(N-1-k)*3+1,none⟩) hb).trans (hx 1 (by omega));have g2:=(hB.cell (p:=⟨b,off+(N-1-k)*3+2,none⟩) hb).trans (hx 2 (by omega));have hc:=(hB.cell (p:=⟨Bn,on,none⟩) hBn0).trans hBn;clear hx hBn hE hY
   gi_wp2
   refine hR.mono ?_
   rintro e W3 (⟨rfl,hJ3,hk3⟩|⟨rfl,hJx3⟩)
   .gi_wp2
    go_roundw
    case rel=>exact⟨k+1,by omega,by rw[hw2 k hN];congr 1;omega,by rw[<-MF hN];exact hJ3,hB.trans hk3⟩
    case measure=>have hw3:=hw2 k hN;simp[intOf];omega
   .gi_wp2
    refine bodyPost_ret (results_none rfl _ _ _) rfl ?_;exact⟨⟨_,rfl⟩,.inr ⟨_,trivial,hJx3⟩⟩
  .have hge: ¬(0:Int)<=(N:Int) -1-k:=by omega
   obtain rfl:k=N:=by omega
   gi_wp2
   go_end0
   exact⟨⟨_,rfl⟩,.inl (by rw[q5Z (by simp)]at hJ;exact hJ)⟩
theorem bw_r(n:Nat)(hn:1<=n){H:Heap}{w0:World}(hon:Heap.On H w0)(xs:List (Rat))(hN:xs.length<4611686018427387904)(v:Value)(hv:(clP 230 (cellsC (.sl .rat) xs)).p H v):
  ∃(lb:Array Value)(encs:Fin xs.length->Array Value),v= .func (.func 230) #[] lb/\(∀x,∃a b,encs x= #[a,.agg b]/\CSats H (cellsC .rat (gt .rat xs (xs.length-1-x.val))) b.toList)/\
   SeqStopsK Fence.wide n Pg 230 lb encs (KpU λi=>H i≠none) (λys=>ys=List.finRange xs.length) (λ_=>True) xs.length w0:=by
 obtain⟨q,rfl,Bn,on,arr0,rfl,hB,hc⟩:=hv;have hw1:wrap64 ((xs.length:Int) -1)=(xs.length:Int) -1:=by unfold wrap64;omega
 have hw2: ∀k:Nat,k<xs.length->wrap64 ((xs.length:Int) -1-k-1)=(xs.length:Int) -1-k-1:=λk hk=>by unfold wrap64;omega
 have hbl: ∀b,H b≠none->b<w0.heap.size:=λb hb=>by
  obtain⟨cs,e⟩:=Option.ne_none_iff_exists'.1 hb;obtain⟨T,fz,h⟩:=hon _ _ e;exact(q6L.1 h).1
 obtain⟨u,hu,a,c,rfl,hnc,hcs⟩:=CSats.get 0 hc rfl
 have hu0:arr0[on]?=some (.slice a xs.length c):=by
  rw[q5E (by rw[jD];exact Nat.zero_lt_one),q5B]at hu;simpa using hu
 have hlen:(jb .rat xs).length=xs.length*3:=v4 .rat xs
 obtain⟨X,hX,hE⟩: ∃X:Nat->Nat->Value,(∀i,i<xs.length->CSats H (cellsC .rat (gt .rat xs i)) [X i 0,X i 1,X i 2])/\
   ∀W,Below w0.heap.size w0 W-> ∀i,i<xs.length-> ∃b off,a=some ⟨b,off,none⟩/\H b≠none/\ ∀j,j<3->W.cell? ⟨b,off+i*3+j,none⟩=some (X i j):=by
  rcases hcs with hcs|⟨b,off,arr,rfl,hHb,hcs⟩
  .have hcs:jb .rat xs=[]:=hcs
   rw[hcs]at hlen;have h0:xs.length=0:=by simp at hlen;omega
   exact⟨λ_ _=>undef,λi hi=>by omega,λW hW i hi=>by omega⟩
  .have hcs:CSats H (jb .rat xs) ((arr.toList.drop off).take (jb .rat xs).length):=hcs
   have hl2:=CSats.length hcs;rw[q5L,q5I,hlen]at hl2;have hl3:arr.toList.length=arr.size:=by simp
   refine⟨λi j=>arr.getD (off+i*3+j) undef,λi hi=>?_,λW hW i hi=>⟨b,off,rfl,by rw[hHb];simp,λj hj=>?_⟩⟩
   .have h1:=CSats.take 3 (CSats.drop (i*3) hcs)
    have h2:=DD .rat xs i hi;have h2:((jb .rat xs).drop (i*3)).take 3=cellsC .rat (gt .rat xs i):=h2;rw[h2]at h1
    have h3:(((arr.toList.drop off).take (jb .rat xs).length).drop (i*3)).take 3=[arr.getD (off+i*3+0) undef,arr.getD (off+i*3+1) undef,arr.getD (off+i*3+2) undef]:=by
     apply List.ext_getElem?;intro j;rw[List.getElem?_take];split
     .rename_i hj
      rw[q5B,q5E (by rw[hlen];omega),q5B,Array.getElem?_toList,show off+(i*3+j)=off+i*3+j by omega];have hlt:off+i*3+j<arr.size:=by omega
      rw[Array.getElem?_eq_getElem hlt];have hg:arr.getD (off+i*3+j) undef=arr[off+i*3+j]:=by simp[Array.getD,hlt]
      rw[<-hg]
      (match j,hj with|0,_=>rfl|1,_=>rfl|2,_=>rfl)
     .rename_i hj
      exact(q5D (by simp;omega)).symm
    rw[h3]at h1;exact h1
   .have hlt:off+i*3+j<arr.size:=by omega
    rw[hW.cell (p:=⟨b,off+i*3+j,none⟩) (hbl b (by rw[hHb];simp)),FM (hon _ _ hHb)];simp[Array.getD,hlt]
 refine⟨_,λx=> #[.int .i64 ((xs.length:Int) -1-x.val),.agg #[X (xs.length-1-x.val) 0,X (xs.length-1-x.val) 1,X (xs.length-1-x.val) 2]],rfl,λx=>⟨_,_,rfl,hX _ (by omega)⟩,?_⟩;intro l J Jx W hW _ _ hY h0;exact Vp n hn _ l Bn on xs.length a c X J Jx hY W (by show H Bn≠none;rw[hB];simp) (by rw[hW.cell (p:=⟨Bn,on,none⟩) (hbl Bn (by rw[hB];simp)),FM (hon _ _ hB)];exact hu0) (hE W hW) h0 hw1 hw2
set_option maxRecDepth 100000 in
set_option maxHeartbeats 2000000 in
theorem Vo(n:Nat)(hn:1<=n)(U:Nat->Prop)(l Bn on N:Nat)(a:Option Addr)(c:Nat)(X:Nat->Nat->Value)
  (J Jx:List (Fin N)->World->Prop)
  (hY: ∀pre(x:Fin N) W1,J pre W1->pre.length<N->YieldAt Fence.wide (n-1) Pg l #[.int .i64 ((N:Int) -1-x.val),.agg #[X (N-1-x.val) 0,X (N-1-x.val) 1,X (N-1-x.val) 2,X (N-1-x.val) 3,X (N-1-x.val) 4,X (N-1-x.val) 5,X (N-1-x.val) 6,X (N-1-x.val) 7,X (N-1-x.val) 8,X (N-1-x.val) 9,X (N-1-x.val) 10,X (N-1-x.val) 11]] W1 λe W'=>(e= .returned (.bool true)/\J (pre++[x]) W'/\KpU U W1 W')\/(e= .returned (.bool false)/\Jx (pre++[x]) W'))
  (W:World)(hBn0:U Bn)(hBn:W.cell? ⟨Bn,on,none⟩=some (.slice a N c))(hE: ∀i,i<N-> ∃b off,a=some ⟨b,off,none⟩/\U b/\ ∀j,j<12->W.cell? ⟨b,off+i*12+j,none⟩=some (X i j))(h0:J [] W)(hw1:wrap64 ((N:Int) -1)=(N:Int) -1)(hw2: ∀k:Nat,k<N->wrap64 ((N:Int) -1-k-1)=(N:Int) -1-k-1):
  CallsIn Fence.wide n Pg 201 #[.func (.yield l) #[] #[],.pointer (some ⟨Bn,on,none⟩)] W λe W'=>(∃v,e= .returned v)/\
   ((∃ys,ys=List.finRange N/\J ys W')\/(∃pre,True/\Jx pre W')):=by
 refine callsIn_of_wp Tryz.func201 rfl trivial ?_ rfl;simp only[Tryz.ntmps201,List.size_toArray,q5H,q5K,Nat.reduceAdd,Nat.reduceSub,Array.replicate_succ,Array.replicate_zero,List.push_toArray,List.append_toArray,q5V,List.cons_append]
 gi_wp2
 gi_loopw [3] (λp wr=> ∃k:Nat,k<=N/\p= .int .i64 ((N:Int) -1-k)/\J ((List.finRange N).take k) wr/\KpU U W wr)
  (λp _=>(intOf p+1).toNat)
 case atStart=>exact⟨0,q6A _,by rw[hw1];simp,by simpa using h0,KpU.refl _⟩
 case round=>
  clear hw1;obtain⟨k,hk,rfl,hJ,hB⟩:=hrel;by_cases hN:k<N
  .have hge:(0:Int)<=(N:Int) -1-k:=by omega
   have hlen:((List.finRange N).take k).length=k:=by simp;omega
   obtain⟨fn,tmps,assign,body,hy,hR⟩:=hY ((List.finRange N).take k) ⟨k,hN⟩ wr hJ (by omega);obtain⟨b,off,rfl,hb,hx⟩:=hE (N-1-k) (by omega);have g0:=(hB.cell (p:=⟨b,off+(N-1-k)*12,none⟩) hb).trans (hx 0 (by omega));have g1:=(hB.cell (p:=⟨b,off+(N-1-k)*12+1,none⟩) hb).trans (hx 1 (by omega));have g2:=(hB.cell (p:=⟨b,off+(N-1-k)*12+2,none⟩) hb).trans (hx 2 (by omega));have g3:=(hB.cell (p:=⟨b,off+(N-1-k)*12+3,none⟩) hb).trans (hx 3 (by omega));have g4:=(hB.cell (p:=⟨b,off+(N-1-k)*12+4,none⟩) hb).trans (hx 4 (by omega));have g5:=(hB.cell (p:=⟨b,off+(N-1-k)*12+5,none⟩) hb).trans (hx 5 (by omega));have g6:=(hB.cell (p:=⟨b,off+(N-1-k)*12+6,none⟩) hb).trans (hx 6 (by omega));have g7:=(hB.cell (p:=⟨b,off+(N-1-k)*12+7,none⟩) hb).trans (hx 7 (by omega));have g8:=(hB.cell (p:=⟨b,off+(N-1-k)*12+8,none⟩) hb).trans (hx 8 (by omega));have g9:=(hB.cell (p:=⟨b,off+(N-1-k)*12+9,none⟩) hb).trans (hx 9 (by omega));have g10:=(hB.cell (p:=⟨b,off+(N-1-k)*12+10,none⟩) hb).trans (hx 10 (by omega));have g11:=(hB.cell (p:=⟨b,off+(N-1-k)*12+11,none⟩) hb).trans (hx 11 (by omega));have hc:=(hB.cell (p:=⟨Bn,on,none⟩) hBn0).trans hBn;clear hx hBn hE hY
   gi_wp2
   refine hR.mono ?_
   rintro e W3 (⟨rfl,hJ3,hk3⟩|⟨rfl,hJx3⟩)
   .gi_wp2
    go_roundw
    case rel=>exact⟨k+1,by omega,by rw[hw2 k hN];congr 1;omega,by rw[<-MF hN];exact hJ3,hB.trans hk3⟩
    case measure=>have hw3:=hw2 k hN;simp[intOf];omega
   .gi_wp2
    refine bodyPost_ret (results_none rfl _ _ _) rfl ?_;exact⟨⟨_,rfl⟩,.inr ⟨_,trivial,hJx3⟩⟩
  .have hge: ¬(0:Int)<=(N:Int) -1-k:=by omega
   obtain rfl:k=N:=by omega
   gi_wp2
   go_end0
   exact⟨⟨_,rfl⟩,.inl (by rw[q5Z (by simp)]at hJ;exact hJ)⟩
theorem bw_p(n:Nat)(hn:1<=n){H:Heap}{w0:World}(hon:Heap.On H w0)(xs:List ((Rat×Rat×Rat)×Rat))(hN:xs.length<4611686018427387904)(v:Value)(hv:(clP 201 (cellsC (.sl (.pr (.pr .rat (.pr .rat .rat)) .rat)) xs)).p H v):
  ∃(lb:Array Value)(encs:Fin xs.length->Array Value),v= .func (.func 201) #[] lb/\(∀x,∃a b,encs x= #[a,.agg b]/\CSats H (cellsC (.pr (.pr .rat (.pr .rat .rat)) .rat) (gt (.pr (.pr .rat (.pr .rat .rat)) .rat) xs (xs.length-1-x.val))) b.toList)/\
   SeqStopsK Fence.wide n Pg 201 lb encs (KpU λi=>H i≠none) (λys=>ys=List.finRange xs.length) (λ_=>True) xs.length w0:=by
 obtain⟨q,rfl,Bn,on,arr0,rfl,hB,hc⟩:=hv;have hw1:wrap64 ((xs.length:Int) -1)=(xs.length:Int) -1:=by unfold wrap64;omega
 have hw2: ∀k:Nat,k<xs.length->wrap64 ((xs.length:Int) -1-k-1)=(xs.length:Int) -1-k-1:=λk hk=>by unfold wrap64;omega
 have hbl: ∀b,H b≠none->b<w0.heap.size:=λb hb=>by
  obtain⟨cs,e⟩:=Option.ne_none_iff_exists'.1 hb;obtain⟨T,fz,h⟩:=hon _ _ e;exact(q6L.1 h).1
 obtain⟨u,hu,a,c,rfl,hnc,hcs⟩:=CSats.get 0 hc rfl
 have hu0:arr0[on]?=some (.slice a xs.length c):=by
  rw[q5E (by rw[jD];exact Nat.zero_lt_one),q5B]at hu;simpa using hu
 have hlen:(jb (.pr (.pr .rat (.pr .rat .rat)) .rat) xs).length=xs.length*12:=v4 (.pr (.pr .rat (.pr .rat .rat)) .rat) xs
 obtain⟨X,hX,hE⟩: ∃X:Nat->Nat->Value,(∀i,i<xs.length->CSats H (cellsC (.pr (.pr .rat (.pr .rat .rat)) .rat) (gt (.pr (.pr .rat (.pr .rat .rat)) .rat) xs i)) [X i 0,X i 1,X i 2,X i 3,X i 4,X i 5,X i 6,X i 7,X i 8,X i 9,X i 10,X i 11])/\
   ∀W,Below w0.heap.size w0 W-> ∀i,i<xs.length-> ∃b off,a=some ⟨b,off,none⟩/\H b≠none/\ ∀j,j<12->W.cell? ⟨b,off+i*12+j,none⟩=some (X i j):=by
  rcases hcs with hcs|⟨b,off,arr,rfl,hHb,hcs⟩
  .have hcs:jb (.pr (.pr .rat (.pr .rat .rat)) .rat) xs=[]:=hcs
   rw[hcs]at hlen;have h0:xs.length=0:=by simp at hlen;omega
   exact⟨λ_ _=>undef,λi hi=>by omega,λW hW i hi=>by omega⟩
  .have hcs:CSats H (jb (.pr (.pr .rat (.pr .rat .rat)) .rat) xs) ((arr.toList.drop off).take (jb (.pr (.pr .rat (.pr .rat .rat)) .rat) xs).length):=hcs
   have hl2:=CSats.length hcs;rw[q5L,q5I,hlen]at hl2;have hl3:arr.toList.length=arr.size:=by simp
   refine⟨λi j=>arr.getD (off+i*12+j) undef,λi hi=>?_,λW hW i hi=>⟨b,off,rfl,by rw[hHb];simp,λj hj=>?_⟩⟩
   .have h1:=CSats.take 12 (CSats.drop (i*12) hcs)
    have h2:=DD (.pr (.pr .rat (.pr .rat .rat)) .rat) xs i hi;have h2:((jb (.pr (.pr .rat (.pr .rat .rat)) .rat) xs).drop (i*12)).take 12=cellsC (.pr (.pr .rat (.pr .rat .rat)) .rat) (gt (.pr (.pr .rat (.pr .rat .rat)) .rat) xs i):=h2;rw[h2]at h1
    have h3:(((arr.toList.drop off).take (jb (.pr (.pr .rat (.pr .rat .rat)) .rat) xs).length).drop (i*12)).take 12=[arr.getD (off+i*12+0) undef,arr.getD (off+i*12+1) undef,arr.getD (off+i*12+2) undef,arr.getD (off+i*12+3) undef,arr.getD (off+i*12+4) undef,arr.getD (off+i*12+5) undef,arr.getD (off+i*12+6) undef,arr.getD (off+i*12+7) undef,arr.getD (off+i*12+8) undef,arr.getD (off+i*12+9) undef,arr.getD (off+i*12+10) undef,arr.getD (off+i*12+11) undef]:=by
     apply List.ext_getElem?;intro j;rw[List.getElem?_take];split
     .rename_i hj
      rw[q5B,q5E (by rw[hlen];omega),q5B,Array.getElem?_toList,show off+(i*12+j)=off+i*12+j by omega];have hlt:off+i*12+j<arr.size:=by omega
      rw[Array.getElem?_eq_getElem hlt];have hg:arr.getD (off+i*12+j) undef=arr[off+i*12+j]:=by simp[Array.getD,hlt]
      rw[<-hg]
      (match j,hj with|0,_=>rfl|1,_=>rfl|2,_=>rfl|3,_=>rfl|4,_=>rfl|5,_=>rfl|6,_=>rfl|7,_=>rfl|8,_=>rfl|9,_=>rfl|10,_=>rfl|11,_=>rfl)
     .rename_i hj
      exact(q5D (by simp;omega)).symm
    rw[h3]at h1;exact h1
   .have hlt:off+i*12+j<arr.size:=by omega
    rw[hW.cell (p:=⟨b,off+i*12+j,none⟩) (hbl b (by rw[hHb];simp)),FM (hon _ _ hHb)];simp[Array.getD,hlt]
 refine⟨_,λx=> #[.int .i64 ((xs.length:Int) -1-x.val),.agg #[X (xs.length-1-x.val) 0,X (xs.length-1-x.val) 1,X (xs.length-1-x.val) 2,X (xs.length-1-x.val) 3,X (xs.length-1-x.val) 4,X (xs.length-1-x.val) 5,X (xs.length-1-x.val) 6,X (xs.length-1-x.val) 7,X (xs.length-1-x.val) 8,X (xs.length-1-x.val) 9,X (xs.length-1-x.val) 10,X (xs.length-1-x.val) 11]],rfl,λx=>⟨_,_,rfl,hX _ (by omega)⟩,?_⟩;intro l J Jx W hW _ _ hY h0;exact Vo n hn _ l Bn on xs.length a c X J Jx hY W (by show H Bn≠none;rw[hB];simp) (by rw[hW.cell (p:=⟨Bn,on,none⟩) (hbl Bn (by rw[hB];simp)),FM (hon _ _ hB)];exact hu0) (hE W hW) h0 hw1 hw2
section
open Go Go.Proofs Go.RowKit
def FF(σ:FS):Prop:= ∀k b,σ (2*k+1)=some (.bl b)->(∃cs,b= .rigid cs)\/ ∃es cs,b= .grow es cs
theorem Jo{b:Blk}(hb:(∃cs,b= .rigid cs)\/ ∃es cs,b= .grow es cs){β:Bm}{w:World}{H:Heap}{k:Nat}(h:b.rep β w H k){i c:Nat}(hβ:β k=some (i,c)): ∃arr T,w.heap[i]?=some (.cells arr T (0,0)):=by
 rcases hb with⟨cs,rfl⟩|⟨es,cs,rfl⟩
 .obtain⟨b,c',arr,T,h1,h2,_⟩:=h
  rw[hβ]at h1;cases h1;exact⟨arr,T,h2⟩
 .rcases h with⟨h1,_⟩|⟨b,c',arr,T,h1,h2,_⟩
  .rw[hβ]at h1;cases h1
  .rw[hβ]at h1;cases h1;exact⟨arr,T,h2⟩
theorem GA{w w2:World}{row:Option Nat}(hg:w.grownBy w2 row)(hr: ∀r,row=some r-> ∃o:Obj,w.heap[r]?=some o/\o.isCells=false){i:Nat}{arr:Array Value}{T:TypeId}{fz:Nat×Nat}(h:w.heap[i]?=some (.cells arr T fz)):w2.heap[i]?=w.heap[i]?:=by
 refine hg.block i (q6L.1 h).1 λe=>?_
 obtain⟨o,ho,hc⟩:=hr i e.symm;rw[h]at ho;cases ho;cases hc
theorem Mj{H:Heap}{w w2:World}(h:Heap.On H w){row:Option Nat}(hg:w.grownBy w2 row)(hr: ∀r,row=some r-> ∃o:Obj,w.heap[r]?=some o/\o.isCells=false):Heap.On H w2:=λb cs e=>by
 obtain⟨T,fz,h1⟩:=h b cs e;exact⟨T,fz,(GA hg hr h1).trans h1⟩
theorem Kb{b:Blk}(hb:(∃cs,b= .rigid cs)\/ ∃es cs,b= .grow es cs){β:Bm}{w w2:World}{H:Heap}{k:Nat}(h:b.rep β w H k){row:Option Nat}(hg:w.grownBy w2 row)(hr: ∀r,row=some r-> ∃o:Obj,w.heap[r]?=some o/\o.isCells=false):b.rep β w2 H k:=
 Blk.rep_congr h (Heap.Le.refl _) (λ_ _=>rfl) λi c hβ=>by
  obtain⟨arr,T,h1⟩:=Jo hb h hβ;exact GA hg hr h1
theorem RepF.grown{E:Env}{σ:FS}{a:Act}{w w2:World}{H:Heap}{β:Bm}(h:RepF E σ a w H β)(hc:FF σ){row:Option Nat}(hg:w.grownBy w2 row)(hr: ∀r,row=some r->E.w0.heap.size<=r/\ ∃o:Obj,w.heap[r]?=some o/\o.isCells=false):RepF E σ a w2 H β:=by
 have hr':=λr e=>(hr r e).2
 refine⟨h.defers,h.size,h.slot,λk b hb=>Kb (hc k b hb) (h.blk k b hb) hg hr',λk x b c hx hβ=>?_,h.inj,h.bor,hg.os.trans h.os,hg.tape.trans h.tape,hg.output.trans h.output,q6e h.wsize hg.size,λb hb hk=>?_,h.hle,h.hnew,Mj h.hon hg hr'⟩
 .obtain⟨o1,o2,o3⟩:=h.own k x b c hx hβ
  exact⟨o1,q6g o2 hg.size,o3⟩
 .exact(hg.block b (q6g hb h.wsize) (λe=>by have:=(hr b e.symm).1;omega)).trans (h.frame b hb hk)
theorem RepF.rebase{E:Env}{σ:FS}{a:Act}{w w2:World}{H:Heap}{β:Bm}(h:RepF E σ a w H β)(hc:FF σ){row:Option Nat}(hg:w.grownBy w2 row)(hr: ∀r,row=some r-> ∃o:Obj,w.heap[r]?=some o/\o.isCells=false)
  {Ks:List Nat}(hKs: ∀k∈Ks,100000<=k)(hK: ∀k x,σ (2*k+1)=some (.bl x)->k∈Ks){n:Nat}{ds:List Deferred}{σ':FS}{a':Act}(hblk: ∀k b,σ' (2*k+1)=some (.bl b)->σ (2*k+1)=some (.bl b))
  (hslot: ∀t av,σ' (2*t)=some (.av av)-> ∃v,a'.tmps[t]?=some v/\av.sat β H v)(hd:a'.defers=ds)(hs:a'.tmps.size=n):RepF ⟨w2,H,β,Ks,n,hKs,ds⟩ σ' a' w2 H β:=by
 refine⟨hd,hs,hslot,λk b hb=>Kb (hc k b (hblk k b hb)) (h.blk k b (hblk k b hb)) hg hr,λk x b c hx hβ=>?_,λk k' x x' b c c' hx hx' hne hβ=>h.inj k k' x x' b c c' (hblk k x hx) (hblk k' x' hx') hne hβ,λ_ _=>rfl,rfl,rfl,rfl,q6d _,λ_ _ _=>rfl,Heap.Le.refl _,λ_ hb=> .inl hb,Mj h.hon hg hr⟩;obtain⟨o1,o2,_⟩:=h.own k x b c (hblk k x hx) hβ;exact⟨o1,q6g o2 hg.size,.inr ⟨k,hK k x (hblk k x hx),c,hβ⟩⟩
structure Lk (n₀:Nat) (Ks:List Nat) (w:World) (H:Heap) (β:Bm) (w2:World) (H2:Heap) (β2:Bm):Prop where
 os:w2.os=w.os
 tape:w2.tape=w.tape
 output:w2.output=w.output
 size:w.heap.size<=w2.heap.size
 frame: ∀b,b<n₀->(∀k∈Ks,∀c,β k≠some (b,c))->w2.heap[b]?=w.heap[b]?
 hle:Heap.Le H H2
 hnew: ∀b,H2 b≠none->H b≠none\/w.heap.size<=b
 bor: ∀k∈Ks,β2 k=β k
theorem Lk.trans {n₀ : Nat} {Ks : List Nat} {w w2 w3 : World} {H H2 H3 : Heap} {β β2 β3 : Bm} (h : Lk n₀ Ks w H β w2 H2 β2) (k : Lk n₀ Ks w2 H2 β2 w3 H3 β3) : Lk n₀ Ks w H β w3 H3 β3 :=
 ⟨k.os.trans h.os, k.tape.trans h.tape, k.output.trans h.output, q6e h.size k.size, λb hb hk => (k.frame b hb λq hq c => by rw [h.bor q hq]; exact hk q hq c).trans (h.frame b hb hk), h.hle.trans k.hle,
  λb hb => (k.hnew b hb).elim (h.hnew b) λh1 => .inr (q6e h.size h1), λq hq => (k.bor q hq).trans (h.bor q hq)⟩
theorem Lk.grown{n₀:Nat}{Ks:List Nat}{w w2:World}{H:Heap}{β:Bm}{row:Option Nat}(hn:n₀<=w.heap.size)(hg:w.grownBy w2 row)(hr: ∀r,row=some r->n₀<=r):Lk n₀ Ks w H β w2 H β:=
 ⟨hg.os,hg.tape,hg.output,hg.size,λb hb _=>hg.block b (by omega) λe=>by have:=hr b e.symm;omega,Heap.Le.refl _,λ_ h=> .inl h,λ_ _=>rfl⟩
theorem RepF.lk{w:World}{H:Heap}{β:Bm}{Ks:List Nat}{n:Nat}{hKs: ∀k∈Ks,100000<=k}{ds:List Deferred}{σ:FS}{a:Act}{w1:World}{H1:Heap}{β1:Bm}(h:RepF ⟨w,H,β,Ks,n,hKs,ds⟩ σ a w1 H1 β1){n₀:Nat}(hn:n₀<=w.heap.size):Lk n₀ Ks w H β w1 H1 β1:=
 ⟨h.os,h.tape,h.output,h.wsize,λb hb hk=>h.frame b (q6g hb hn) hk,h.hle,h.hnew,h.bor⟩
theorem RepF.back{E:Env}(hE:E.Ks=[]){σ σ':FS}{a a':Act}{w w3:World}{H H3:Heap}{β β3 β':Bm}(h:RepF E σ a w H β){Ks:List Nat}(hl:Lk E.w0.heap.size Ks w H β w3 H3 β3)(hK: ∀k∈Ks,∃x,σ (2*k+1)=some (.bl x))
  (hd:a'.defers=E.dfs)(hs:a'.tmps.size=E.n)(hslot: ∀t av,σ' (2*t)=some (.av av)-> ∃v,a'.tmps[t]?=some v/\av.sat β' H3 v)(hblk: ∀k b,σ' (2*k+1)=some (.bl b)->b.rep β' w3 H3 k)
  (hown: ∀k x b c,σ' (2*k+1)=some (.bl x)->β' k=some (b,c)->H3 b=none/\b<w3.heap.size/\(w.heap.size<=b\/ ∃k0∈Ks,∃c0,β k0=some (b,c0)))
  (hinj: ∀k k' x x' b c c',σ' (2*k+1)=some (.bl x)->σ' (2*k'+1)=some (.bl x')->k≠k'->β' k=some (b,c)->β' k'≠some (b,c'))(hon:Heap.On H3 w3):RepF E σ' a' w3 H3 β':=by
 have hno: ∀b c k,k∈Ks->β k=some (b,c)->E.w0.heap.size<=b:=by
  intro b c k hk hβ;obtain⟨x,hx⟩:=hK k hk;rcases(h.own k x b c hx hβ).2.2 with o|⟨k0,hk0,_⟩
  .exact o
  .rw[hE]at hk0;simp at hk0
 refine⟨hd,hs,hslot,hblk,λk x b c hx hβ=>?_,hinj,λk hk=>by rw[hE]at hk;simp at hk,hl.os.trans h.os,hl.tape.trans h.tape,hl.output.trans h.output,q6e h.wsize hl.size,λb hb hk=>?_,h.hle.trans hl.hle,λb hb=>?_,hon⟩
 .obtain⟨o1,o2,o3⟩:=hown k x b c hx hβ
  refine⟨o1,o2,.inl ?_⟩;rcases o3 with o3|⟨k0,hk0,c0,o3⟩
  .exact q6e h.wsize o3
  .exact hno _ _ _ hk0 o3
 .exact(hl.frame b hb λk hk' c hβ=>by have:=hno _ _ _ hk' hβ;omega).trans (h.frame b hb hk)
 .rcases hl.hnew b hb with h1|h1
  .exact h.hnew b h1
  .exact .inr (q6e h.wsize h1)
theorem GU {w : World} {H : Heap} {β : Bm} {Ks : List Nat} {n : Nat} {hKs : ∀ k ∈ Ks, 100000 <= k} {ds : List Deferred} {σ : FS} {a : Act} {w1 : World} {H1 : Heap} {β1 : Bm} (h : RepF ⟨w, H, β, Ks, n, hKs, ds⟩ σ a w1 H1 β1) (hc : ∀ k ∈ Ks, ∀ b c, β k = some (b, c) -> ∃ arr T, w.heap[b]? = some (.cells arr T (0, 0))) : KeepsOthers w w1 :=
 ⟨h.wsize, λi o hi ho => (h.frame i (q6L.1 hi).1 λk hk c hβ => by
  obtain ⟨arr, T, e⟩ := hc k hk i c hβ;have hi : w.heap[i]? = some o := hi
  rw [hi] at e; cases e; cases ho).trans hi⟩
theorem UA{w:World}{H H0:Heap}{β:Bm}{Ks:List Nat}{n:Nat}{hKs: ∀k∈Ks,100000<=k}{ds:List Deferred}{σ:FS}{a:Act}{w1:World}{H1:Heap}{β1:Bm}(h:RepF ⟨w,H,β,Ks,n,hKs,ds⟩ σ a w1 H1 β1)(hle:Heap.Le H0 H)(hon:Heap.On H w)(hc: ∀k∈Ks,∀b c,β k=some (b,c)->H b=none):KpU (λi=>H0 i≠none) w w1:=λi hi=>by
 obtain⟨cs,e⟩:=Option.ne_none_iff_exists'.1 hi;have e:=hle _ _ e;obtain⟨T,fz,h1⟩:=hon _ _ e;exact h.frame i (q6L.1 h1).1 λk hk c hβ=>by have:=hc k hk i c hβ;rw[e]at this;cases this
def hasM:List (Nat×WV)->WSt->Prop
 |[],_=>True
 |p::r,st=>qA st p.1=some p.2/\hasM r st
def hasL:List (Nat×WB)->WSt->Prop
 |[],_=>True
 |p::r,st=>qm st p.1=some p.2/\hasL r st
theorem hasM.get: ∀{m:List (Nat×WV)}{st:WSt},hasM m st-> ∀{t v},look m t=some v->qA st t=some v
 |(k,v)::r,st,h,t,u,e=>by
  simp only[look]at e;by_cases hk:k=t
  .subst hk;simp at e;subst e;exact h.1
  .rw[jm hk]at e;exact hasM.get h.2 e
 |[],_,_,_,_,e=>by simp[look]at e
theorem hasL.get: ∀{m:List (Nat×WB)}{st:WSt},hasL m st-> ∀{t v},look m t=some v->qm st t=some v
 |(k,v)::r,st,h,t,u,e=>by
  simp only[look]at e;by_cases hk:k=t
  .subst hk;simp at e;subst e;exact h.1
  .rw[jm hk]at e;exact hasL.get h.2 e
 |[],_,_,_,_,e=>by simp[look]at e
abbrev stW(m:List (Nat×WV))(L:List (Nat×WB)):WSt:=⟨[],m,[],L⟩
theorem Aw(m:List (Nat×WV))(L:List (Nat×WB))(t:Nat):qA (stW m L) t=look m t:=by unfold qA stW;simp only;cases look m t<;>rfl
theorem vX(m:List (Nat×WV))(L:List (Nat×WB))(t:Nat):qm (stW m L) t=look L t:=by unfold qm stW;simp only;cases look L t<;>rfl
theorem fs_m(st:WSt)(t:Nat):j9 st.toA (2*t)=(qA st t).map λv=> .av v.exp:=by rw[jy,vd];cases qA st t<;>rfl
theorem fs_L(st:WSt)(k:Nat):j9 st.toA (2*k+1)=(qm st k).map λv=> .bl v.exp:=by rw[qz,qJ];cases qm st k<;>rfl
theorem q1j{st st':WSt}(hm: ∀t v,qA st' t=some v->qA st t=some v)(hL: ∀t v,qm st' t=some v->qm st t=some v): ∀ℓ x,j9 st'.toA ℓ=some x->j9 st.toA ℓ=some x:=by
 intro ℓ x h;rcases q6l ℓ with e|e
 .obtain⟨t,rfl⟩: ∃t,ℓ=2*t:=⟨ℓ/2,by omega⟩
  rw[fs_m]at h⊢
  cases hv:qA st' t with
  |none=>rw[hv]at h;cases h
  |some v=>rw[hv]at h;rw[hm t v hv];exact h
 .obtain⟨t,rfl⟩: ∃t,ℓ=2*t+1:=⟨ℓ/2,by omega⟩
  rw[fs_L]at h⊢
  cases hv:qm st' t with
  |none=>rw[hv]at h;cases h
  |some v=>rw[hv]at h;rw[hL t v hv];exact h
theorem LR{m:List (Nat×WV)}{L:List (Nat×WB)}{st:WSt}(hm:hasM m st)(hL:hasL L st): ∀ℓ x,j9 (stW m L).toA ℓ=some x->j9 st.toA ℓ=some x:=
 q1j (λt v h=>hm.get (by rwa [Aw]at h)) (λt v h=>hL.get (by rwa [vX]at h))
section
variable {P:Program}
def endR(t:Ty)(K:Nat)(pre post:List WA)(Lf:List (Nat×WB))(l':List t.den):Kont P:=λ_ ex st=>match qm st K with
 |some (.rig m)=>match m.drop pre.length with
  | .gs d n _ _::r=>match qm st d with
   |some B=>match blOf true t B with
    |some (_,l1)=>ex= .normal/\Nat.blt d 100000=true/\m.take pre.length=pre/\r=post/\n=l1.length/\l1=l'/\hasL Lf st
    |none=>False
   |none=>False
  |_=>False
 |_=>False
theorem Qt{t:Ty}{K:Nat}{pre post:List WA}{Lf:List (Nat×WB)}{l':List t.den}{an:Ann P}{ex:Exit}{st:WSt}(h:endR t K pre post Lf l' an ex st):
  ex= .normal/\ ∃d w nb B,d<100000/\qm st K=some (.rig (pre++ .gs d l'.length w nb::post))/\qm st d=some B/\B.exp= .grow t.w (je t l')/\hasL Lf st:=by
 unfold endR at h;split at h
 .rename_i m hK
  split at h
  .rename_i d n w nb r hm
   split at h
   .rename_i B hB
    split at h
    .rename_i b l1 hb
     obtain⟨rfl,hd,h1,rfl,rfl,rfl,hL⟩:=h;refine⟨rfl,d,w,nb,B,by simpa using hd,?_,hB,(BJ hb).1,hL⟩;rw[hK,<-List.take_append_drop pre.length m,h1,hm]
    .exact h.elim
   .exact h.elim
  .exact h.elim
 .exact h.elim
def PQ(P:Program)(gf:FuncId)(te:Ty):Prop:= ∀n,1<=n-> ∀{H:Heap}{w0:World},Heap.On H w0-> ∀xs:List te.den,xs.length<4611686018427387904-> ∀v,(clP gf (cellsC (.sl te) xs)).p H v->
  ∃(lb:Array Value)(encs:Fin xs.length->Array Value),v= .func (.func gf) #[] lb/\(∀x,∃a b,encs x= #[a,.agg b]/\CSats H (cellsC te (gt te xs (xs.length-1-x.val))) b.toList)/\
   SeqStopsK Fence.wide n P gf lb encs (KpU λi=>H i≠none) (λys=>ys=List.finRange xs.length) (λ_=>True) xs.length w0
end
end
section
open Go Go.Proofs Go.RowKit
section
variable {P:Program}
abbrev SLf(t:Ty)(b:Bd)(nb K Kg:Nat)(pre post:List WA)(Lf:List (Nat×WB))(l:List t.den):List (Nat×WB):=(K,.rig (pre++ .gs Kg l.length t.w nb::post))::(Kg,.gro t b l)::Lf
theorem WAs.men_nil{a:List WA}(h:WAs.ids a=[])(k:Nat):jA k (WAs.exp a)=false:=by
 cases hm:jA k (WAs.exp a)with
 |false=>rfl
 |true=>have:=WAs.men_ids hm;rw[h]at this;simp at this
theorem Sats.gs{β β':Bm}{H:Heap}{d d' n:Nat}(hd:β' d'=β d): ∀{A B:List Atom}{vs:List Value},(∀k,jA k A=false)->(∀k,jA k B=false)->Sats β H (A++ .gs d n::B) vs->Sats β' H (A++ .gs d' n::B) vs
 |[],B,v::vs,_,hB,h=>⟨by
   rcases h.1 with⟨h1,h2,h3⟩|⟨b,c,h1,h2⟩
   .exact .inl ⟨by rw[hd,h1],h2,h3⟩
   .exact .inr ⟨b,c,by rw[hd,h1],h2⟩,Sats.congr (Heap.Le.refl _) (λk hk=>by rw[hB k]at hk;cases hk) h.2⟩
 |a::A,B,v::vs,hA,hB,h=>⟨Atom.sat_congr (Heap.Le.refl _) (λk hk=>by have:=hA k;simp only[jA,hk,Bool.true_or]at this;cases this) h.1,
   Sats.gs hd (λk=>by have:=hA k;simp only[jA,Bool.or_eq_false_iff]at this;exact this.2) hB h.2⟩
 |[],_,[],_,_,h=>h.elim
 |_::_,_,[],_,_,h=>h.elim
theorem q3S(p0 p1:Tmp)(va vb:Value)(t:Array Value):((#[p0,p1]:Array Tmp).zip #[va,vb]).foldl (λt(p,v)=>t.setIfInBounds p v) t=(t.setIfInBounds p0 va).setIfInBounds p1 vb:=by
 first|rfl|simp
theorem q1r{t:Ty}{l:List t.den}{i:Nat}(h:i<l.length):gt t l i∈l:=by
 unfold gt;rw[q5y,q5C h];exact q6M h
theorem Vh{te:Ty}{α:Type}(φ:te.den->α)(xs:List te.den):(List.finRange xs.length).map (λx=>φ (gt te xs (xs.length-1-x.val)))=xs.reverse.map φ:=by
 refine List.ext_getElem (by simp) λi h1 h2=>?_
 simp only[q5J,List.length_finRange]at h1;simp only[List.getElem_map,List.getElem_finRange,List.getElem_reverse]
 congr 1
 unfold gt;rw[q5y,q5C (by simp;omega)];rfl
set_option maxHeartbeats 1000000 in
theorem q2S(hm:P.follows .mixedOrders=true){E:Env}(hE:E.Ks=[])(hdf:E.dfs=[]){G:List (Nat×Hint P)}{n:Nat}(hn:E.n=n){te t:Ty}{be bx b:Bd}{nb K Kg M:Nat}{pre post:List WA}{Lf:List (Nat×WB)}{Sm:List (Nat×WV)}{gs p0 p1 v5:Nat}{gf:FuncId}{assign body:Code}{Ks:List Nat}
  (eKs:Ks=K::Kg::Lf.map (·.1))(hKs: ∀k∈Ks,100000<=k)(hKg:Kg≠K)(hLf: ∀p∈Lf,p.1≠K/\p.1≠Kg/\ ∃r,p.2= .rig r/\WAs.ids r=[])(hpre:WAs.ids pre=[])(hpost:WAs.ids post=[])
  (hSm: ∀p∈Sm,p.1≠p0/\p.1≠p1/\ ∀k∈p.2.ids,k∈Ks/\k≠Kg)(hp01:p0≠p1)(hp1:p1<n){xs:List te.den}(hgs:look Sm gs=some (.c (.one (.dt (.cl gf (.sl te)) bx xs))))
  (hag:te.agg=true)(hcall:callable P gf=true)(hbk:PQ P gf te)(hda:noDf assign=true)(hdb:noDf body=true)
  (φ:te.den->t.den)(hφ: ∀x∈xs,Bnd t b (φ x))(hxs: ∀x∈xs,Bnd te be x)(hN:xs.length<4611686018427387904)(hM:xs.length<=M)(hMn:M<=nb)
  (okS: ∀p∈Sm,p.2.ok)(okL: ∀p∈Lf,p.2.ok)(okp:WAs.ok pre)(okq:WAs.ok post)
  (hasg: ∀(l:List t.den)(x:te.den),l.length<=M->x∈xs-> ∃an,Hold (wp ⟨G,n,Ks⟩ assign an (stW ((p1,.c (mkC te be x))::Sm) (SLf t b nb K Kg pre post Lf l)) (λan e st=>wpre ⟨G,n,Ks⟩ 999999 an st λ_ st=>e= .normal/\hasM ((v5,.c (.one (.ip te be x 0)))::Sm) st/\hasL (SLf t b nb K Kg pre post Lf l) st)))
  (hbody: ∀(l:List t.den)(x:te.den),l.length<=M->x∈xs-> ∃an,Hold (wp ⟨G,n,Ks⟩ body an (stW ((v5,.c (.one (.ip te be x 0)))::Sm) (SLf t b nb K Kg pre post Lf l)) (endR t K pre post Lf (l++[φ x]))))
  {nn:Nat}(hnn:2<=nn){a:Act}{w:World}{H:Heap}{β:Bm}(hrep:RepF E (j9 (stW Sm (SLf t b nb K Kg pre post Lf [])).toA) a w H β):
  (Code.rangeFunc (.tmp gs) #[p0,p1] assign body).wpIn Fence.wide nn P (λe a' w'=>e= .normal/\ ∃D H' β',a'={a with defers:={target:= .collected D,args:= #[]}::a.defers}/\w'.heap[D]?=some (.deferred (some []))/\w.heap.size<=D/\RepF E (j9 (stW Sm (SLf t b nb K Kg pre post Lf (xs.reverse.map φ))).toA) a w' H' β') a w:=by
 --the states
 have lkL: ∀(l:List t.den){k:Nat}{x:WB},look (SLf t b nb K Kg pre post Lf l) k=some x->(k=K/\x= .rig (pre++ .gs Kg l.length t.w nb::post))\/(k=Kg/\x= .gro t b l)\/((k,x)∈Lf/\look Lf k=some x):=by
  intro l k x h;simp only[SLf,look]at h;by_cases h1:K=k
  .subst h1;simp at h;exact .inl ⟨rfl,h.symm⟩
  .rw[jm h1]at h;simp only[cond_false]at h
   by_cases h2:Kg=k
   .subst h2;simp at h;exact .inr (.inl ⟨rfl,h.symm⟩)
   .rw[jm h2]at h;exact .inr (.inr ⟨qR h,h⟩)
 have inL: ∀(l:List t.den){k:Nat},k∈Ks-> ∃x,look (SLf t b nb K Kg pre post Lf l) k=some x:=by
  intro l k hk;rw[eKs]at hk;simp only[SLf,look];by_cases h1:K=k
  .subst h1;simp
  .rw[jm h1];simp only[cond_false]
   by_cases h2:Kg=k
   .subst h2;simp
   .rw[jm h2];simp only[cond_false]
    simp only[q5O]at hk;rcases hk with rfl|rfl|hk
    .exact absurd rfl h1
    .exact absurd rfl h2
    .clear hLf okL lkL hasg hbody eKs hKs hrep hSm
     induction Lf with
     |nil=>simp at hk
     |cons p r ih=>
      by_cases h3:p.1=k
      .exact⟨p.2,by simp[look,h3]⟩
      .simp only[q5M,q5O]at hk
       rcases hk with rfl|hk
       .exact absurd rfl h3
       .obtain⟨x,hx⟩:=ih hk
        exact⟨x,by simp only[look,jm h3,cond_false];exact hx⟩
 have lkK: ∀(l:List t.den){k:Nat}{x:WB},look (SLf t b nb K Kg pre post Lf l) k=some x->k∈Ks:=by
  intro l k x h;rw[eKs];rcases lkL l h with⟨rfl,_⟩|⟨rfl,_⟩|⟨h1,_⟩
  .exact q5Q
  .exact q5P _ q5Q
  .exact q5P _ (q5P _ (q6T.2 ⟨_,h1,rfl⟩))
 have nm: ∀(m:List (Nat×WV))(l:List t.den),FF (j9 (stW m (SLf t b nb K Kg pre post Lf l)).toA):=by
  intro m l k x h;rw[fs_L,vX]at h
  cases hx:look (SLf t b nb K Kg pre post Lf l) k with
  |none=>rw[hx]at h;cases h
  |some y=>
   rw[hx]at h;simp only[q6D,q6E,XV.bl.injEq]at h;subst h
   rcases lkL l hx with⟨_,rfl⟩|⟨_,rfl⟩|⟨h1,_⟩
   .exact .inl ⟨_,rfl⟩
   .exact .inr ⟨_,_,rfl⟩
   .obtain⟨_,_,r,h2,_⟩:=hLf _ h1
    have h2:y= .rig r:=h2;subst h2;exact .inl ⟨_,rfl⟩
 have hKin: ∀(m:List (Nat×WV))(l:List t.den)(k:Nat)(x:Blk),j9 (stW m (SLf t b nb K Kg pre post Lf l)).toA (2*k+1)=some (.bl x)->k∈Ks:=by
  intro m l k x h;rw[fs_L,vX]at h
  cases hx:look (SLf t b nb K Kg pre post Lf l) k with
  |none=>rw[hx]at h;cases h
  |some y=>exact lkK l hx
 have hKin2: ∀(m:List (Nat×WV))(l:List t.den)(k:Nat),k∈Ks-> ∃x,j9 (stW m (SLf t b nb K Kg pre post Lf l)).toA (2*k+1)=some (.bl x):=by
  intro m l k hk;obtain⟨x,hx⟩:=inL l hk;exact⟨x.exp,by rw[fs_L,vX,hx];rfl⟩
 have okW: ∀(m:List (Nat×WV))(l:List t.den),(∀p∈m,p.2.ok)->l.length<=M->(∀y∈l,Bnd t b y)->(stW m (SLf t b nb K Kg pre post Lf l)).Ok:=by
  intro m l h1 h2 h3;refine⟨λt v hv=>by rw[Aw]at hv;exact h1 _ (qR hv),λk x hx=>?_,λt ht=>absurd rfl ht,λt ht=>absurd rfl ht⟩;rw[vX]at hx;rcases lkL l hx with⟨_,rfl⟩|⟨_,rfl⟩|⟨h4,_⟩
  .refine WAs.ok_app.2 ⟨okp,λy hy=>?_⟩
   rcases q5O.1 hy with rfl|hy
   .exact q6e h2 hMn
   .exact okq y hy
  .exact h3
  .exact okL _ h4
 --the function value
 obtain⟨v,hv,hsat⟩:=hrep.slot gs _ (by rw[fs_m,Aw,hgs];rfl);obtain⟨lb,encs,rfl,henc,hseq⟩:=hbk (nn-1) (by omega) hrep.hon xs hN v hsat
 have hev:a.eval (.tmp gs)= .func (.func gf) #[] lb:=by
  have:a.tmps[gs]?=some (.func (.func gf) #[] lb):=hv;simp[Act.eval,this]
 have hHl: ∀i,H i≠none->i<w.heap.size:=λi hi=>by
  obtain⟨cs,e⟩:=Option.ne_none_iff_exists'.1 hi;obtain⟨T,fz,h⟩:=hrep.hon _ _ e;exact(q6L.1 h).1
 obtain⟨acc,hacc⟩: ∃acc:List (Fin xs.length)->List t.den,acc=λl=>l.map λx=>φ (gt te xs (xs.length-1-x.val)):=⟨_,rfl⟩
 have hx_mem: ∀x:Fin xs.length,gt te xs (xs.length-1-x.val)∈xs:=λx=>q1r (by omega)
 have hacl: ∀l,(acc l).length=l.length:=λl=>by rw[hacc];simp
 have hacb: ∀l,∀y∈acc l,Bnd t b y:=λl y hy=>by
  rw[hacc]at hy;obtain⟨x,_,rfl⟩:=q6T.1 hy;exact hφ _ (hx_mem x)
 refine RJ rfl (by omega) hev trivial (λargs w=>CP hcall args w) hseq (λh k=>h.trans k) (λW l o o' hl ho h1 h2=>KpU.put (n₀:=w.heap.size) hHl W l o o' hl ho h1 h2) (Below.refl _ _)
  (λx=>by obtain⟨u1,u2,e,_⟩:=henc x;rw[e];rfl)
  (λl W=> ∃H' β',RepF E (j9 (stW Sm (SLf t b nb K Kg pre post Lf (acc l))).toA) a W H' β'/\Heap.Le H H')
  ?_ ⟨H,β,by rw[hacc];exact hrep,Heap.Le.refl _⟩ ?_ ?_
 .rintro l W W' row ⟨H',β',h1,h2⟩ hg hr
  exact⟨H',β',h1.grown (nm _ _) hg λr e=>⟨q6e hrep.wsize (hr r e).1,(hr r e).2⟩,h2⟩
 .rintro ll pl x W ⟨H0,β0,hr0,hle0⟩ hlen
  have hin:gt te xs (xs.length-1-x.val)∈xs:=hx_mem x;obtain⟨y,hy⟩: ∃y,y=gt te xs (xs.length-1-x.val):=⟨_,rfl⟩;have hlM:(acc pl).length<=M:=by rw[hacl];omega
  obtain⟨va,vb,hex,hvb⟩:=henc x;rw[<-hy]at hvb hin;have hsz:a.tmps.size=n:=hr0.size.trans hn
  --the start of the round
  have hr1:RepF ⟨W,H0,β0,Ks,n,hKs,[]⟩ (j9 (stW ((p1,.c (mkC te be y))::Sm) (SLf t b nb K Kg pre post Lf (acc pl))).toA) {tmps:=((#[p0,p1]:Array Tmp).zip (encs x)).foldl (λt(p,v)=>t.setIfInBounds p v) a.tmps,defers:=[]} W H0 β0:=by
   rw[hex,q3S];refine hr0.rebase (row:=none) (nm _ _) (World.grownBy.refl W none) (λr e=>by cases e) hKs (λk x h=>hKin _ _ k x h) (λk b' h=>by rw[fs_L,vX]at h⊢;exact h) ?_ rfl (by simp[hsz]);intro s av hs;rw[fs_m,Aw]at hs;simp only[look]at hs;show∃v,((a.tmps.setIfInBounds p0 va).setIfInBounds p1 (.agg vb))[s]?=some v/\av.sat β0 H0 v;by_cases h1:p1=s
   .subst h1
    simp only[beq_self_eq_true,Nat.beq_refl,cond_true,q6D,q6E,XV.av.injEq]at hs;subst hs;refine⟨.agg vb,by simp[hsz,hp1],?_⟩;have e:(WV.c (mkC te be y)).exp= .c (.agg (qO te y)):=by simp[mkC,hag,WV.exp,WC.exp,WAs.exp,WA.exp]
    rw[e];exact⟨vb,rfl,CSats.up (hvb.mono hle0)⟩
   .rw[jm h1]at hs;simp only[cond_false]at hs
    cases hv2:look Sm s with
    |none=>rw[hv2]at hs;cases hs
    |some u=>
     have hmem:=hSm _ (qR hv2);rw[hv2]at hs;simp only[q6D,q6E,XV.av.injEq]at hs;subst hs
     obtain⟨v2,e1,e2⟩:=hr0.slot s _ (by rw[fs_m,Aw,hv2];rfl);refine⟨v2,?_,e2⟩;rw[Array.getElem?_setIfInBounds_ne h1,Array.getElem?_setIfInBounds_ne (λe=>hmem.1 e.symm)];exact e1
  have hKc: ∀{σ:FS}{W':World}{H':Heap}{β':Bm}{E':Env}{a':Act},FF σ->(∀k∈Ks,∃x,σ (2*k+1)=some (.bl x))->RepF E' σ a' W' H' β'->(∀k∈Ks,∀b c,β' k=some (b,c)-> ∃arr T,W'.heap[b]?=some (.cells arr T (0,0)))/\(∀k∈Ks,∀b c,β' k=some (b,c)->H' b=none):=by
   intro σ W' H' β' E' a' hn' hk' hr';refine⟨λk hk i c hβ=>?_,λk hk i c hβ=>?_⟩
   .obtain⟨x,hx⟩:=hk' k hk
    exact Jo (hn' k x hx) (hr'.blk k x hx) hβ
   .obtain⟨x,hx⟩:=hk' k hk
    exact(hr'.own k x i c hx hβ).1
  have hc0:=hKc (nm Sm (acc pl)) (hKin2 Sm (acc pl)) hr0;obtain⟨an1,hw1⟩:=hasg (acc pl) y hlM hin
  have hs1:=CT hm assign (some ll) (nn-1-1) (.inr hda) an1 _ _ hw1.h (okW _ _ (λp hp=>by
   rcases q5O.1 hp with rfl|hp
   .show(mkC te be y).ok
    simp only[mkC,hag,cond_true];intro q hq;simp at hq;subst hq;exact hxs _ hin
   .exact okS p hp) hlM (hacb pl)) ⟨W,H0,β0,Ks,n,hKs,[]⟩ rfl rfl _ _ _ _ hr1
  refine wpIn_mono hs1 ?_
  rintro e1 a1 W1 ⟨ann1,st1,H1,β1,hΦ1,hk1,_,_,hR1⟩
  obtain⟨_,st2,⟨rfl,hM2,hL2⟩,hk2,hent,_,_⟩:=zB hΦ1 hk1;obtain⟨H2,β2,hR2⟩:=hent ⟨W,H0,β0,Ks,n,hKs,[]⟩ rfl rfl _ _ _ _ hR1;have hR2:=hR2.sub (LR hM2 hL2);refine⟨GU hR2 hc0.1,UA hR2 hle0 hr0.hon hc0.2,λW2 row hg hrow=>?_⟩
  --the body
  have hrow':=λr e=>(hrow r e).2
  have hR3:RepF ⟨W2,H2,β2,Ks,n,hKs,[]⟩ (j9 (stW ((v5,.c (.one (.ip te be y 0)))::Sm) (SLf t b nb K Kg pre post Lf (acc pl))).toA) a1 W2 H2 β2:=
   hR2.rebase (nm _ _) hg hrow' hKs (λk x h=>hKin _ _ k x h) (λk b' h=>h) (λs av h=>hR2.slot s av h) hR2.defers hR2.size
  have hc2:=hKc (nm _ _) (hKin2 _ _) hR3;obtain⟨an2,hw2⟩:=hbody (acc pl) y hlM hin
  have hs2:=CT hm body (some ll) (nn-1-1) (.inr hdb) an2 _ _ hw2.h (okW _ _ (λp hp=>by
   rcases q5O.1 hp with rfl|hp
   .exact⟨hxs _ hin,rfl⟩
   .exact okS p hp) hlM (hacb pl)) ⟨W2,H2,β2,Ks,n,hKs,[]⟩ rfl rfl _ _ _ _ hR3
  refine wpIn_mono hs2 ?_
  rintro e3 a3 W3 ⟨_,st3,H3,β3,hend,hk3,_,_,hR4⟩
  obtain⟨rfl,d,wd,nb',B,hd,hK3,hB3,hBe,hL3⟩:=Qt hend;refine⟨rfl,GU hR4 hc2.1,UA hR4 (hle0.trans (hR2.hle)) hR3.hon hc2.2,H3,λk=>if k=Kg then β3 d else β3 k,?_,(hle0.trans hR2.hle).trans hR4.hle⟩;have hlk:Lk E.w0.heap.size Ks W H0 β0 W3 H3 β3:=((hR2.lk hr0.wsize).trans (Lk.grown (q6e hr0.wsize hR2.wsize) hg λr e=>q6e hrep.wsize (hrow r e).1)).trans (hR4.lk (q6e (q6e hr0.wsize hR2.wsize) hg.size));have hdK:d∉Ks:=λh=>by have:=hKs d h;omega
  have eacc:acc (pl++[x])=acc pl++[φ y]:=by rw[hy,hacc];simp
  rw[eacc];have b3: ∀k∈Ks,k≠Kg->(if k=Kg then β3 d else β3 k)=β0 k:=λk hk hne=>by rw[if_neg hne];exact hlk.bor k hk
  --the blocks of the end and where they come from
  have src: ∀k x,look (SLf t b nb K Kg pre post Lf (acc pl++[φ y])) k=some x-> ∃k3 x3,qm st3 k3=some x3/\(if k=Kg then β3 d else β3 k)=β3 k3/\((k=Kg/\k3=d)\/(k≠Kg/\k3=k/\k∈Ks)):=by
   intro k x hx;have hkk:=lkK _ hx;rcases lkL _ hx with⟨rfl,rfl⟩|⟨rfl,rfl⟩|⟨h4,h5⟩
   .exact⟨_,_,hK3,by rw[if_neg (λe=>hKg e.symm)],.inr ⟨λe=>hKg e.symm,rfl,hkk⟩⟩
   .exact⟨_,_,hB3,by rw[if_pos rfl],.inl ⟨rfl,rfl⟩⟩
   .have:=hLf _ h4
    exact⟨_,_,hL3.get h5,by rw[if_neg this.2.1],.inr ⟨this.2.1,rfl,hkk⟩⟩
  refine RepF.back hE hr0 hlk (hKin2 Sm (acc pl)) hr0.defers hr0.size ?_ ?_ ?_ ?_ hR4.hon
  .intro s av hs
   rw[fs_m,Aw]at hs
   cases hv2:look Sm s with
   |none=>rw[hv2]at hs;cases hs
   |some u=>
    have hmem:=hSm _ (qR hv2);rw[hv2]at hs;simp only[q6D,q6E,XV.av.injEq]at hs;subst hs
    obtain⟨v2,e1,e2⟩:=hr0.slot s _ (by rw[fs_m,Aw,hv2];rfl);refine⟨v2,e1,AV.sat_congr hlk.hle (λk hk=>?_) e2⟩;obtain⟨h1,h2⟩:=hmem.2.2 k (WV.men_ids hk);exact b3 k h1 h2
  .intro k b' hs
   rw[fs_L,vX]at hs
   cases hx:look (SLf t b nb K Kg pre post Lf (acc pl++[φ y])) k with
   |none=>rw[hx]at hs;cases hs
   |some u=>
    rw[hx]at hs;simp only[q6D,q6E,XV.bl.injEq]at hs;subst hs
    rcases lkL _ hx with⟨rfl,rfl⟩|⟨rfl,rfl⟩|⟨h4,h5⟩
    .obtain⟨i,c,arr,T,q1,q2,q3⟩:=hR4.blk k _ (by rw[fs_L,hK3];rfl)
     refine⟨i,c,arr,T,(if_neg (λe=>hKg e.symm)).trans q1,q2,?_⟩;have e: ∀q l,WAs.exp (pre++ .gs q l wd nb'::post)=WAs.exp pre++ .gs q l::WAs.exp post:=λq l=>by simp[WAs.exp,WA.exp]
     have e':WAs.exp (pre++ .gs Kg (acc pl++[φ y]).length t.w nb::post)=WAs.exp pre++ .gs Kg (acc pl++[φ y]).length::WAs.exp post:=by simp[WAs.exp,WA.exp]
     rw[e]at q3;rw[e'];refine Sats.congr (β:=λk=>if k=Kg then β3 d else β3 k) (Heap.Le.refl _) (λ_ _=>rfl) ?_;have q4:Sats (λk=>if k=Kg then β3 d else β3 k) H3 (WAs.exp pre++ .gs Kg (acc pl++[φ y]).length::WAs.exp post) arr.toList:=Sats.gs (by rw[if_pos rfl]) (WAs.men_nil hpre) (WAs.men_nil hpost) q3;exact q4
    .have q:=hR4.blk d (.grow t.w (je t (acc pl++[φ y]))) (by rw[fs_L,hB3,<-hBe];rfl)
     have e: ∀k',jA k' (je t (acc pl++[φ y]))=false:=λk'=>zI k' t _
     rcases q with⟨q1,q2⟩|⟨i,c,arr,T,q1,q2,q3,q4,q5⟩
     .exact .inl ⟨(if_pos rfl).trans q1,q2⟩
     .exact .inr ⟨i,c,arr,T,(if_pos rfl).trans q1,q2,q3,q4,Sats.congr (Heap.Le.refl _) (λk' hk'=>by rw[e k']at hk';cases hk') q5⟩
    .obtain⟨n1,n2,r,n3,n4⟩:=hLf _ h4
     have n3:u= .rig r:=n3;subst n3;obtain⟨i,c,arr,T,q1,q2,q3⟩:=hR4.blk k _ (by rw[fs_L,hL3.get h5];rfl);exact⟨i,c,arr,T,(if_neg n2).trans q1,q2,Sats.congr (Heap.Le.refl _) (λk' hk'=>by rw[WAs.men_nil n4 k']at hk';cases hk') q3⟩
  .intro k x' i c hs hβ
   rw[fs_L,vX]at hs
   cases hx:look (SLf t b nb K Kg pre post Lf (acc pl++[φ y])) k with
   |none=>rw[hx]at hs;cases hs
   |some u=>
    obtain⟨k3,x3,q1,q2,q3⟩:=src k u hx;have hβ:(if k=Kg then β3 d else β3 k)=some (i,c):=hβ;rw[q2]at hβ;obtain⟨o1,o2,o3⟩:=hR4.own k3 x3.exp i c (by rw[fs_L,q1];rfl) hβ;refine⟨o1,o2,?_⟩;rcases o3 with o3|⟨k0,hk0,c0,o3⟩
    .exact .inl (q6e (q6e hR2.wsize hg.size) o3)
    .exact .inr ⟨k0,hk0,c0,by have h6:β2 k0=β0 k0:=hR2.bor k0 hk0;rw[<-h6];exact o3⟩
  .intro k k' x1 x2 i c c' hs hs' hne hβ hβ'
   rw[fs_L,vX]at hs hs'
   cases hx:look (SLf t b nb K Kg pre post Lf (acc pl++[φ y])) k with
   |none=>rw[hx]at hs;cases hs
   |some u=>
    cases hx':look (SLf t b nb K Kg pre post Lf (acc pl++[φ y])) k' with
    |none=>rw[hx']at hs';cases hs'
    |some u'=>
     obtain⟨k3,x3,q1,q2,q3⟩:=src k u hx;obtain⟨k3',x3',q1',q2',q3'⟩:=src k' u' hx';have hβ:(if k=Kg then β3 d else β3 k)=some (i,c):=hβ;have hβ':(if k'=Kg then β3 d else β3 k')=some (i,c'):=hβ';rw[q2]at hβ;rw[q2']at hβ';refine hR4.inj k3 k3' x3.exp x3'.exp i c c' (by rw[fs_L,q1];rfl) (by rw[fs_L,q1'];rfl) ?_ hβ hβ';rcases q3 with⟨r1,r2⟩|⟨r1,r2,r3⟩<;>rcases q3' with⟨s1,s2⟩|⟨s1,s2,s3⟩
     .exact absurd (r1.trans s1.symm) hne
     .rw[r2,s2];exact λe=>hdK (e▸s3)
     .rw[r2,s2];exact λe=>hdK (e▸r3)
     .rw[r2,s2];exact hne
 .rintro D ys W hD rfl ⟨H',β',h1,h2⟩ hK
  refine⟨rfl,D,H',β',rfl,hK,hD,?_⟩;have e:acc (List.finRange xs.length)=xs.reverse.map φ:=by rw[hacc];exact Vh φ xs
  rw[e]at h1;exact h1
end
end
section
open Go Go.Proofs Go.RowKit
section
variable {P:Program}
theorem Sats.nilgs{β β':Bm}{H:Heap}{d':Nat}(hd:β' d'=none): ∀{A B:List Atom}{vs:List Value},(∀k,jA k A=false)->(∀k,jA k B=false)->Sats β H (A++ .val (.slice none 0 0)::B) vs->Sats β' H (A++ .gs d' 0::B) vs
 |[],B,v::vs,_,hB,h=>⟨.inl ⟨hd,rfl,h.1.1⟩,Sats.congr (Heap.Le.refl _) (λk hk=>by rw[hB k]at hk;cases hk) h.2⟩
 |a::A,B,v::vs,hA,hB,h=>⟨Atom.sat_congr (Heap.Le.refl _) (λk hk=>by have:=hA k;simp only[jA,hk,Bool.true_or]at this;cases this) h.1,
   Sats.nilgs hd (λk=>by have:=hA k;simp only[jA,Bool.or_eq_false_iff]at this;exact this.2) hB h.2⟩
 |[],_,[],_,_,h=>h.elim
 |_::_,_,[],_,_,h=>h.elim
theorem RP{E:Env}(hE:E.Ks=[]){t:Ty}{b:Bd}{nb k3:Nat}{pre post:List WA}{Lf0:List (Nat×WB)}{Sm0 Sm:List (Nat×WV)}{a:Act}{w:World}{H:Heap}{β:Bm}
  (hpre:WAs.ids pre=[])(hpost:WAs.ids post=[])(hk3:k3<99999)(hLf: ∀p∈Lf0,p.1≠k3/\p.1<99999/\ ∃r,p.2= .rig r/\WAs.ids r=[])
  (hS: ∀s v,look Sm s=some v-> ∃v0,look Sm0 s=some v0/\v.exp=v0.exp.map (· +100000)/\99999∉v0.ids)
  (h:RepF E (j9 (stW Sm0 ((k3,.rig (pre++ .vl (.slice none 0 0)::post))::Lf0)).toA) a w H β):
  ∃β',RepF E (j9 (stW Sm (SLf t b nb (k3+100000) 199999 pre post (Lf0.map λp=>(p.1+100000,p.2)) [])).toA) a w H β':=by
 obtain⟨β',hβ'⟩: ∃β':Bm,β'=λk=>if k=199999 then none else β (k-100000):=⟨_,rfl⟩
 have hup: ∀k,k≠99999->β' (k+100000)=β k:=λk hk=>by rw[hβ'];show(if k+100000=199999 then none else β (k+100000-100000))=β k;rw[if_neg (by omega),Nat.add_sub_cancel]
 have hg:β' 199999=none:=by rw[hβ'];rfl
 have lkm: ∀{L:List (Nat×WB)},(∀p∈L,p.1≠k3/\p.1<99999/\ ∃r,p.2= .rig r/\WAs.ids r=[])-> ∀{k x},look (L.map λp=>(p.1+100000,p.2)) k=some x-> ∃k0,k=k0+100000/\look L k0=some x/\(k0,x)∈L:=by
  intro L
  induction L with
  |nil=>intro _ k x h;simp[look]at h
  |cons p r ih=>
   intro hl k x h;simp only[q5M,look]at h;by_cases e:p.1+100000=k
   .subst e;simp at h;subst h;exact⟨p.1,rfl,by simp[look],q5Q⟩
   .rw[jm e]at h;simp only[cond_false]at h
    obtain⟨k0,e1,e2,e3⟩:=ih (λq hq=>hl q (q5P _ hq)) h;refine⟨k0,e1,?_,q5P _ e3⟩;simp only[look];rw[jm (λe'=>e (by rw[e',e1]))];exact e2
 have lk: ∀{k x},look (SLf t b nb (k3+100000) 199999 pre post (Lf0.map λp=>(p.1+100000,p.2)) []) k=some x->(k=k3+100000/\x= .rig (pre++ .gs 199999 0 t.w nb::post))\/(k=199999/\x= .gro t b [])\/ ∃k0,k=k0+100000/\look Lf0 k0=some x/\(k0,x)∈Lf0:=by
  intro k x h;simp only[SLf,look]at h;by_cases h1:k3+100000=k
  .subst h1;simp at h;exact .inl ⟨rfl,h.symm⟩
  .rw[jm h1]at h;simp only[cond_false]at h
   by_cases h2:199999=k
   .subst h2;simp at h;exact .inr (.inl ⟨rfl,h.symm⟩)
   .rw[jm h2]at h;exact .inr (.inr (lkm hLf h))
 have l0: ∀{k0 x},look Lf0 k0=some x->(k0,x)∈Lf0->look ((k3,WB.rig (pre++ .vl (.slice none 0 0)::post))::Lf0) k0=some x:=by
  intro k0 x h hm;simp only[look];rw[jm (λe=>(hLf _ hm).1 e.symm)];exact h
 have l3:look ((k3,WB.rig (pre++ .vl (.slice none 0 0)::post))::Lf0) k3=some (.rig (pre++ .vl (.slice none 0 0)::post)):=by simp[look]
 --where a block comes from
 have src: ∀{k x i c},look (SLf t b nb (k3+100000) 199999 pre post (Lf0.map λp=>(p.1+100000,p.2)) []) k=some x->β' k=some (i,c)-> ∃k0 x0,k=k0+100000/\qm (stW Sm0 ((k3,.rig (pre++ .vl (.slice none 0 0)::post))::Lf0)) k0=some x0/\β k0=some (i,c):=by
  intro k x i c hx hβ;rcases lk hx with⟨rfl,rfl⟩|⟨rfl,rfl⟩|⟨k0,rfl,h1,h2⟩
  .exact⟨k3,_,rfl,by rw[vX];exact l3,by rw[<-hup k3 (by omega)];exact hβ⟩
  .rw[hg]at hβ;cases hβ
  .exact⟨k0,_,rfl,by rw[vX];exact l0 h1 h2,by rw[<-hup k0 (by have:=(hLf _ h2).2.1;simp only at this;omega)];exact hβ⟩
 refine⟨β',h.defers,h.size,?_,?_,?_,?_,λk hk=>by rw[hE]at hk;simp at hk,h.os,h.tape,h.output,h.wsize,h.frame,h.hle,h.hnew,h.hon⟩
 .intro s av hs
  rw[fs_m,Aw]at hs
  cases hv:look Sm s with
  |none=>rw[hv]at hs;cases hs
  |some v=>
   rw[hv]at hs;simp only[q6D,q6E,XV.av.injEq]at hs;subst hs
   obtain⟨v0,e1,e2,e3⟩:=hS s v hv;obtain⟨u,q1,q2⟩:=h.slot s _ (by rw[fs_m,Aw,e1];rfl);refine⟨u,q1,?_⟩;rw[e2,AV.sat_map];refine AV.sat_congr (Heap.Le.refl _) (λk hk=>hup k λe=>?_) q2;subst e;exact e3 (WV.men_ids hk)
 .intro k x hs
  rw[fs_L,vX]at hs
  cases hx:look (SLf t b nb (k3+100000) 199999 pre post (Lf0.map λp=>(p.1+100000,p.2)) []) k with
  |none=>rw[hx]at hs;cases hs
  |some u=>
   rw[hx]at hs;simp only[q6D,q6E,XV.bl.injEq]at hs;subst hs
   rcases lk hx with⟨rfl,rfl⟩|⟨rfl,rfl⟩|⟨k0,rfl,h1,h2⟩
   .obtain⟨i,c,arr,T,q1,q2,q3⟩:=h.blk k3 _ (by rw[fs_L,vX,l3];rfl)
    refine⟨i,c,arr,T,(hup k3 (by omega)).trans q1,q2,?_⟩;have e:WAs.exp (pre++ .vl (.slice none 0 0)::post)=WAs.exp pre++ .val (.slice none 0 0)::WAs.exp post:=by simp[WAs.exp,WA.exp]
    have e':WAs.exp (pre++ .gs 199999 0 t.w nb::post)=WAs.exp pre++ .gs 199999 0::WAs.exp post:=by simp[WAs.exp,WA.exp]
    rw[e]at q3;have q4:=Sats.nilgs (H:=H) hg (WAs.men_nil hpre) (WAs.men_nil hpost) q3;rw[<-e']at q4;exact q4
   .exact .inl ⟨hg,rfl⟩
   .obtain⟨n1,n2,r,n3,n4⟩:=hLf _ h2
    have n3:u= .rig r:=n3;subst n3;obtain⟨i,c,arr,T,q1,q2,q3⟩:=h.blk k0 _ (by rw[fs_L,vX,l0 h1 h2];rfl);exact⟨i,c,arr,T,(hup k0 (by have:=n2;simp only at this;omega)).trans q1,q2,Sats.congr (Heap.Le.refl _) (λk' hk'=>by rw[WAs.men_nil n4 k']at hk';cases hk') q3⟩
 .intro k x i c hs hβ
  rw[fs_L,vX]at hs
  cases hx:look (SLf t b nb (k3+100000) 199999 pre post (Lf0.map λp=>(p.1+100000,p.2)) []) k with
  |none=>rw[hx]at hs;cases hs
  |some u=>
   obtain⟨k0,x0,rfl,e1,e2⟩:=src hx hβ;exact h.own k0 x0.exp i c (by rw[fs_L,e1];rfl) e2
 .intro k k' x x' i c c' hs hs' hne hβ hβ'
  rw[fs_L,vX]at hs hs'
  cases hx:look (SLf t b nb (k3+100000) 199999 pre post (Lf0.map λp=>(p.1+100000,p.2)) []) k with
  |none=>rw[hx]at hs;cases hs
  |some u=>
   cases hx':look (SLf t b nb (k3+100000) 199999 pre post (Lf0.map λp=>(p.1+100000,p.2)) []) k' with
   |none=>rw[hx']at hs';cases hs'
   |some u'=>
    obtain⟨k0,x0,rfl,e1,e2⟩:=src hx hβ;obtain⟨k0',x0',rfl,e1',e2'⟩:=src hx' hβ';exact h.inj k0 k0' x0.exp x0'.exp i c c' (by rw[fs_L,e1];rfl) (by rw[fs_L,e1'];rfl) (λe=>hne (by rw[e])) e2 e2'
structure OkP (Sm:List (Nat×WV)) (Lf:List (Nat×WB)) (pre post:List WA):Prop where
 s: ∀p∈Sm,p.2.ok
 l: ∀p∈Lf,p.2.ok
 p:WAs.ok pre
 q:WAs.ok post
def RelS:List (Nat×WV)->List (Nat×WV)->Prop
 |[],[]=>True
 |(a,v)::r,(b,v0)::r0=>a=b/\v.exp=v0.exp.map (· +100000)/\v8 99999 v0.ids=false/\(v0.ok->v.ok)/\RelS r r0
 |_,_=>False
theorem RelS.get: ∀{m m0:List (Nat×WV)},RelS m m0-> ∀s v,look m s=some v-> ∃v0,look m0 s=some v0/\v.exp=v0.exp.map (· +100000)/\99999∉v0.ids
 |[],[],_,s,v,h=>by simp[look]at h
 |(a,v)::r,(b,v0)::r0,hh,s,u,h=>by
  obtain⟨rfl,h1,h2,_,h3⟩:=hh;simp only[look]at h⊢;by_cases e:a=s
  .subst e
   simp at h;subst h
   exact⟨v0,by simp,h1,λhm=>by rw[z9.2 hm]at h2;cases h2⟩
  .rw[jm e]at h⊢
   exact RelS.get h3 s u h
 |[],_::_,h,_,_,_=>h.elim
 |_::_,[],h,_,_,_=>h.elim
theorem RelS.ok{st:WSt}(hk:st.Ok): ∀{m m0:List (Nat×WV)},RelS m m0->hasM m0 st-> ∀p∈m,p.2.ok
 |[],[],_,_,p,hp=>by simp at hp
 |(a,v)::r,(b,v0)::r0,hh,hm,p,hp=>by
  obtain⟨rfl,_,_,h2,h3⟩:=hh;rcases q5O.1 hp with rfl|hp
  .exact h2 (hk.m _ _ hm.1)
  .exact RelS.ok hk h3 hm.2 p hp
 |[],_::_,h,_,_,_=>h.elim
 |_::_,[],h,_,_,_=>h.elim
theorem hasL.ok{st:WSt}(hk:st.Ok): ∀{m:List (Nat×WB)},hasL m st-> ∀p∈m,p.2.ok
 |[],_,p,hp=>by simp at hp
 |q::r,h,p,hp=>by
  rcases q5O.1 hp with rfl|hp
  .exact hk.l _ _ h.1
  .exact hasL.ok hk h.2 p hp
def RnM:List (Nat×WV)->List (Nat×WV)->Prop
 |[],[]=>True
 |(a,v0)::r0,(b,v)::r=>a=b/\v.exp=v0.exp.map (· +100000)/\(v.ok->v0.ok)/\RnM r0 r
 |_,_=>False
def RnB:List (Nat×WB)->List (Nat×WB)->Prop
 |[],[]=>True
 |(a,v0)::r0,(b,v)::r=>b=a+100000/\v.exp=v0.exp.map (· +100000)/\(v.ok->v0.ok)/\RnB r0 r
 |_,_=>False
theorem RnM.get: ∀{m0 m:List (Nat×WV)},RnM m0 m-> ∀s v0,look m0 s=some v0-> ∃v,look m s=some v/\v.exp=v0.exp.map (· +100000)
 |[],[],_,s,v,h=>by simp[look]at h
 |(a,v0)::r0,(b,v)::r,hh,s,u,h=>by
  obtain⟨rfl,h1,_,h3⟩:=hh;simp only[look]at h⊢;by_cases e:a=s
  .subst e
   simp at h;subst h
   exact⟨v,by simp,h1⟩
  .rw[jm e]at h⊢
   exact RnM.get h3 s u h
 |[],_::_,h,_,_,_=>h.elim
 |_::_,[],h,_,_,_=>h.elim
theorem RnB.get: ∀{m0 m:List (Nat×WB)},RnB m0 m-> ∀s v0,look m0 s=some v0-> ∃v,look m (s+100000)=some v/\v.exp=v0.exp.map (· +100000)
 |[],[],_,s,v,h=>by simp[look]at h
 |(a,v0)::r0,(b,v)::r,hh,s,u,h=>by
  obtain⟨rfl,h1,_,h3⟩:=hh;simp only[look]at h⊢;by_cases e:a=s
  .subst e
   simp at h;subst h
   exact⟨v,by simp,h1⟩
  .rw[jm e]at h
   rw[jm (λe'=>e (by omega))];exact RnB.get h3 s u h
 |[],_::_,h,_,_,_=>h.elim
 |_::_,[],h,_,_,_=>h.elim
theorem RnM.ok{st:WSt}(hk:st.Ok): ∀{m0 m:List (Nat×WV)},RnM m0 m->hasM m st-> ∀p∈m0,p.2.ok
 |[],[],_,_,p,hp=>by simp at hp
 |(a,v0)::r0,(b,v)::r,hh,hm,p,hp=>by
  obtain⟨rfl,_,h2,h3⟩:=hh;rcases q5O.1 hp with rfl|hp
  .exact h2 (hk.m _ _ hm.1)
  .exact RnM.ok hk h3 hm.2 p hp
 |[],_::_,h,_,_,_=>h.elim
 |_::_,[],h,_,_,_=>h.elim
theorem RnB.ok{st:WSt}(hk:st.Ok): ∀{m0 m:List (Nat×WB)},RnB m0 m->hasL m st-> ∀p∈m0,p.2.ok
 |[],[],_,_,p,hp=>by simp at hp
 |(a,v0)::r0,(b,v)::r,hh,hm,p,hp=>by
  obtain⟨rfl,_,h2,h3⟩:=hh;rcases q5O.1 hp with rfl|hp
  .exact h2 (hk.l _ _ hm.1)
  .exact RnB.ok hk h3 hm.2 p hp
 |[],_::_,h,_,_,_=>h.elim
 |_::_,[],h,_,_,_=>h.elim
def U0:List WA->List WA->Prop
 |[],[]=>True
 |a::r,b::s=>(a.ok->b.ok)/\U0 r s
 |_,_=>False
theorem RR: ∀{l l0:List WA},(WB.rig l).ok->U0 l l0->(WB.rig l0).ok
 |[],[],_,_,x,hx=>by simp at hx
 |a::r,b::s,h,hr,x,hx=>by
  rcases q5O.1 hx with rfl|hx
  .exact hr.1 (h a q5Q)
  .exact RR (l:=r) (l0:=s) (λy hy=>h y (q5P _ hy)) hr.2 x hx
 |[],_::_,_,h,_,_=>h.elim
 |_::_,[],_,h,_,_=>h.elim
theorem NH(t:Ty)(b:Bd)(l:List t.den){ρ:Nat->Nat}:(WB.gro t b l).exp=(WB.gro t b l).exp.map ρ:=by
 simp only[WB.exp,Blk.map,vU,C0]
def rgB:WB->Bool
 | .rig _| .gro _ _ _=>true
 |_=>false
theorem T9{m:List (Nat×WV)}{L:List (Nat×WB)}(h:L.all (λp=>rgB p.2)=true):FF (j9 (stW m L).toA):=by
 intro k y hy;rw[fs_L,vX]at hy
 cases hl:look L k with
 |none=>rw[hl]at hy;cases hy
 |some u=>
  rw[hl]at hy;simp only[q6D,q6E,XV.bl.injEq]at hy;subst hy
  have h1:=q6N.1 h _ (qR hl);simp only at h1
  cases u with
  |rig r=>exact .inl ⟨_,rfl⟩
  |gro t b l=>exact .inr ⟨_,_,rfl⟩
  |_=>cases h1
def Vg(P:Program)(n:Nat)(rf:Code)(S S':WSt)(O:Prop):Prop:=O-> ∀E:Env,E.Ks=[]->E.dfs=[]->E.n=n-> ∀a w H β,RepF E (j9 S.toA) a w H β->
 rf.wpIn Fence.wide 2 P (λe a' w'=>e= .normal/\ ∃D H' β',a'={a with defers:={target:= .collected D,args:= #[]}::a.defers}/\w'.heap[D]?=some (.deferred (some []))/\w.heap.size<=D/\RepF E (j9 S'.toA) a w' H' β') a w
set_option maxHeartbeats 1000000 in
theorem q53(hm:P.follows .mixedOrders=true){f:FuncId}{fn:Func}{r0 r1 r2 s rf:Code}{id n:Nat}(hf:P.funcs[f]?=some fn)(hb:fn.body=some (.seq r0 (.seq r1 (.seq (.seq r2 (.block id rf)) s))))(hn:fn.ntmps=n)(hname:fn.name≠ "runtime.NumGoroutine")
  {G:List (Nat×Hint P)}{ts:List Ty}{bs:List Bd}{x:dens ts}{R:WV}(hx:Bnds ts bs x)(hlen:Nat.ble (jh ts bs x).length n=true)(hR:R.ids=[])(hRk:R.ok)
  {t:Ty}{b:Bd}{nb k3:Nat}{pre post:List WA}{Lf0:List (Nat×WB)}{Sm0 Sm Me0 Me:List (Nat×WV)}{Le0 Le:List (Nat×WB)}{l:List t.den}{Ks:List Nat}
  (hpre:WAs.ids pre=[])(hpost:WAs.ids post=[])(hk3:k3<99999)(hLf: ∀p∈Lf0,p.1≠k3/\p.1<99999/\ ∃r,p.2= .rig r/\WAs.ids r=[])
  (hS:RelS Sm Sm0)
  (hp: ∃an,Hold (wp ⟨G,n,[]⟩ (.seq r0 (.seq r1 r2)) an (jM (jh ts bs x) []) (λan e st=>wpre ⟨G,n,[]⟩ 999999 an st λ_ st=>e= .normal/\hasM Sm0 st/\hasL ((k3,.rig (pre++ .vl (.slice none 0 0)::post))::Lf0) st)))
  (hrange:Vg P n rf (stW Sm (SLf t b nb (k3+100000) 199999 pre post (Lf0.map λp=>(p.1+100000,p.2)) [])) (stW Sm (SLf t b nb (k3+100000) 199999 pre post (Lf0.map λp=>(p.1+100000,p.2)) l)) (OkP Sm (Lf0.map λp=>(p.1+100000,p.2)) pre post))
  (hKs: ∀k∈Ks,100000<=k)(hK1: ∀k,(look (SLf t b nb (k3+100000) 199999 pre post (Lf0.map λp=>(p.1+100000,p.2)) l) k).isSome=true->k∈Ks)(hK2: ∀k∈Ks,(look (SLf t b nb (k3+100000) 199999 pre post (Lf0.map λp=>(p.1+100000,p.2)) l) k).isSome=true)
  (hok:OkP Sm (Lf0.map λp=>(p.1+100000,p.2)) pre post->(stW Sm (SLf t b nb (k3+100000) 199999 pre post (Lf0.map λp=>(p.1+100000,p.2)) l)).Ok)
  (hs: ∃an,Hold (wp ⟨G,n,Ks⟩ s an (stW Sm (SLf t b nb (k3+100000) 199999 pre post (Lf0.map λp=>(p.1+100000,p.2)) l)) (λan e st=>(e= .normal\/e= .ret)/\hasM Me st/\hasL Le st)))
  (hMe:RnM Me0 Me)(hLe:RnB Le0 Le)(hnm:Le0.all (λp=>rgB p.2)=true)
  (he: ∃an,Hold (wpre (P:=P) ⟨G,n,[]⟩ 999999 an (stW Me0 Le0) λ_ st=>retW P fn.results.toList R .ret st)):Sig P f (argsE ts x) R.exp:=by
 have hargs:=wH hx;refine⟨by unfold callable;rw[hf];simp[hb,hname],?_⟩;intro vs w H β hvs hkin hdis hon;rw[<-w4 ts bs x]at hvs;let E:Env:=⟨w,H,β,[],n,(λk hk=>by simp at hk),[]⟩;have hvl:=AVs.length hvs;have hlen':vs.length<=n:=by rw[<-hvl,q5J];exact q6a hlen
 have hrep:RepF E (j9 (jM (jh ts bs x) []).toA) {tmps:=vs.toArray++Array.replicate (fn.ntmps-vs.toArray.size) undef,defers:=[]} w H β:=by
  rw[zO,List.map_nil];refine⟨rfl,?_,?_,?_,?_,?_,λ_ _=>rfl,rfl,rfl,rfl,q6d _,λ_ _ _=>rfl,Heap.Le.refl _,λb hb=> .inl hb,hon⟩
  .simp[E,hn];omega
  .intro t av ht
   rw[jy]at ht
   cases hl:look (zT ((jh ts bs x).map WV.exp) []).m t with
   |none=>rw[hl]at ht;cases ht
   |some v=>
    rw[hl]at ht;simp at ht;subst ht
    obtain⟨_,h2⟩:=CG hl;obtain⟨u,hu,hs⟩:=AVs.get t hvs (by simpa using h2);refine⟨u,?_,hs⟩
    have hlt:t<vs.length:=by
     rcases q6h t vs.length with h|h
     .exact h
     .rw[q5D h]at hu;cases hu
    rw[Array.getElem?_append_left (by simpa using hlt)];simpa using hu
  .intro k b hb'
   rw[qz]at hb';simp[zT,look]at hb'
  .intro k x b c hx hβ
   rw[qz]at hx;simp[zT,look]at hx
  .intro k k' x x' b c c' hx hx' hne hβ
   rw[qz]at hx;simp[zT,look]at hx
 have hst:(jM (jh ts bs x) []).Ok:=wm hargs (λp hp=>by simp at hp);refine callsIn_wide (n:=2)|>.1 (callsIn_of_wp_marks hf hb trivial ?_ rfl);obtain⟨an,hp⟩:=hp;have hp:=hp.h
 --the prefix
 refine wpIn_seq (wpIn_mono (CT hm r0 none 2 (.inl rfl) an _ _ hp hst E rfl rfl _ _ _ _ hrep) ?_)
 rintro e1 a1 w1 ⟨an1,st1,H1,β1,hΦ1,hk1,_,_,hr1⟩
 cases e1 with
 |normal=>
  refine wpIn_seq (wpIn_mono (CT hm r1 none 2 (.inl rfl) an1 _ _ hΦ1 hk1 E rfl rfl _ _ _ _ hr1) ?_)
  rintro e2 a2 w2 ⟨an2,st2,H2,β2,hΦ2,hk2,_,_,hr2⟩
  cases e2 with
  |normal=>
   refine wpIn_seq (wpIn_seq (wpIn_mono (CT hm r2 none 2 (.inl rfl) an2 _ _ hΦ2 hk2 E rfl rfl _ _ _ _ hr2) ?_))
   rintro e3 a3 w3 ⟨an3,st3,H3,β3,hΦ3,hk3',_,_,hr3⟩
   obtain⟨_,st4,⟨rfl,hM4,hL4⟩,hk4,hent,_,_⟩:=zB hΦ3 hk3';obtain⟨H4,β4,hr4⟩:=hent E rfl rfl _ _ _ _ hr3;obtain⟨β5,hr5⟩:=RP (t:=t) (b:=b) (nb:=nb) (Sm:=Sm) rfl hpre hpost hk3 hLf hS.get (hr4.sub (LR hM4 hL4))
   have hOk:OkP Sm (Lf0.map λp=>(p.1+100000,p.2)) pre post:=by
    have h1:WAs.ok (pre++ .vl (.slice none 0 0)::post):=hk4.l _ _ hL4.1;have h2:=WAs.ok_app.1 h1;refine⟨hS.ok hk4 hM4,λp hp=>?_,h2.1,λy hy=>h2.2 y (q5P _ hy)⟩;obtain⟨q,hq,rfl⟩:=q6T.1 hp;exact hL4.2.ok hk4 q hq
   refine wpIn_block (wpIn_mono (hrange hOk E rfl rfl rfl _ _ _ _ hr5) ?_)
   rintro e6 a6 w6 ⟨rfl,D,H6,β6,rfl,hD,hDs,hr6⟩
   have hd3:a3.defers=[]:=hr5.defers
   --the end
   obtain⟨ans,hsh⟩:=hs
   have hnm6:FF (j9 (stW Sm (SLf t b nb (k3+100000) 199999 pre post (Lf0.map λp=>(p.1+100000,p.2)) l)).toA):=by
    intro k y hy;rw[fs_L,vX]at hy;simp only[SLf,look]at hy;by_cases h1:k3+100000=k
    .subst h1;simp at hy;subst hy;exact .inl ⟨_,rfl⟩
    .rw[jm h1]at hy;simp only[cond_false]at hy
     by_cases h2:199999=k
     .subst h2;simp at hy;subst hy;exact .inr ⟨_,_,rfl⟩
     .rw[jm h2]at hy;simp only[cond_false]at hy
      cases hl:look (Lf0.map λp=>(p.1+100000,p.2)) k with
      |none=>rw[hl]at hy;cases hy
      |some u=>
       rw[hl]at hy;simp only[q6D,q6E,XV.bl.injEq]at hy;subst hy
       obtain⟨q,hq,e⟩:=q6T.1 (qR hl);simp only[q6F]at e;obtain⟨_,_,r,h3,_⟩:=hLf q hq;rw[<-e.2,h3];exact .inl ⟨_,rfl⟩
   have hin6: ∀k y,j9 (stW Sm (SLf t b nb (k3+100000) 199999 pre post (Lf0.map λp=>(p.1+100000,p.2)) l)).toA (2*k+1)=some (.bl y)->k∈Ks:=by
    intro k y hy;rw[fs_L,vX]at hy;refine hK1 k ?_
    cases hl:look (SLf t b nb (k3+100000) 199999 pre post (Lf0.map λp=>(p.1+100000,p.2)) l) k with
    |none=>rw[hl]at hy;cases hy
    |some u=>rfl
   have hin7: ∀k∈Ks,∃y,j9 (stW Sm (SLf t b nb (k3+100000) 199999 pre post (Lf0.map λp=>(p.1+100000,p.2)) l)).toA (2*k+1)=some (.bl y):=by
    intro k hk;obtain⟨u,hu⟩:=Option.isSome_iff_exists.1 (hK2 k hk);exact⟨u.exp,by rw[fs_L,vX,hu];rfl⟩
   have hr7:RepF ⟨w6,H6,β6,Ks,n,hKs,[{target:= .collected D,args:= #[]}]⟩ (j9 (stW Sm (SLf t b nb (k3+100000) 199999 pre post (Lf0.map λp=>(p.1+100000,p.2)) l)).toA) {a3 with defers:={target:= .collected D,args:= #[]}::a3.defers} w6 H6 β6:=
    hr6.rebase (row:=none) hnm6 (World.grownBy.refl w6 none) (λr e=>by cases e) hKs hin6 (λk b h=>h) (λs av h=>hr6.slot s av h) (by rw[hd3]) hr6.size
   refine wpIn_mono (CT hm s none 2 (.inl rfl) ans _ _ hsh.h (hok hOk) ⟨w6,H6,β6,Ks,n,hKs,[{target:= .collected D,args:= #[]}]⟩ rfl rfl _ _ _ _ hr7) ?_
   rintro e8 a8 w8 ⟨_,st8,H8,β8,⟨he8,hM8,hL8⟩,hk8,_,_,hr8⟩
   have hr8':=hr8.sub (LR hM8 hL8)
   have hD8:w8.heap[D]?=some (.deferred (some [])):=(GU hr8 λk hk i c hβ=>by
    obtain⟨y,hy⟩:=hin7 k hk
    exact Jo (hnm6 k y hy) (hr6.blk k y hy) hβ).same D _ hD rfl
   have hr9:RepF E (j9 (stW Me0 Le0).toA) {a8 with defers:=[]} w8 H8 (λk=>β8 (k+100000)):=by
    have src: ∀k y,j9 (stW Me0 Le0).toA (2*k+1)=some (.bl y)-> ∃y',j9 (stW Me Le).toA (2*(k+100000)+1)=some (.bl y')/\y'=y.map (· +100000):=by
     intro k y hy;rw[fs_L,vX]at hy
     cases hl:look Le0 k with
     |none=>rw[hl]at hy;cases hy
     |some u=>
      rw[hl]at hy;simp only[q6D,q6E,XV.bl.injEq]at hy;subst hy
      obtain⟨u',e1,e2⟩:=hLe.get k u hl;exact⟨u'.exp,by rw[fs_L,vX,e1];rfl,e2⟩
    refine RepF.back rfl hr6 (hr8.lk hr6.wsize) hin7 rfl hr8.size ?_ ?_ ?_ ?_ hr8.hon
    .intro t av ht
     rw[fs_m,Aw]at ht
     cases hl:look Me0 t with
     |none=>rw[hl]at ht;cases ht
     |some u=>
      rw[hl]at ht;simp only[q6D,q6E,XV.av.injEq]at ht;subst ht
      obtain⟨u',e1,e2⟩:=hMe.get t u hl;obtain⟨v,q1,q2⟩:=hr8'.slot t _ (by rw[fs_m,Aw,e1];rfl);exact⟨v,q1,by rw[e2,AV.sat_map]at q2;exact q2⟩
    .intro k y hy
     obtain⟨y',e1,rfl⟩:=src k y hy;exact Blk.rep_map.1 (hr8'.blk _ _ e1)
    .intro k y i c hy hβ
     obtain⟨y',e1,_⟩:=src k y hy;obtain⟨o1,o2,o3⟩:=hr8'.own _ _ i c e1 hβ;exact⟨o1,o2,o3⟩
    .intro k k' y y' i c c' hy hy' hne hβ hβ'
     obtain⟨z,e1,_⟩:=src k y hy;obtain⟨z',e1',_⟩:=src k' y' hy';exact hr8'.inj _ _ _ _ i c c' e1 e1' (by omega) hβ hβ'
   have hr10:RepF E (j9 (stW Me0 Le0).toA) {a8 with defers:=[]} (w8.putObj D (.deferred none)) H8 (λk=>β8 (k+100000)):=
    hr9.grown (T9 hnm) (grownBy_putObj' w8 D _) λr e=>by cases e;exact⟨q6e hr5.wsize hDs,_,hD8,rfl⟩
   obtain⟨ane,hE⟩:=he;have okE:(stW Me0 Le0).Ok:=⟨λt v hv=>by rw[Aw]at hv;exact hMe.ok hk8 hM8 _ (qR hv),λk y hy=>by rw[vX]at hy;exact hLe.ok hk8 hL8 _ (qR hy),λt ht=>absurd rfl ht,λt ht=>absurd rfl ht⟩;obtain⟨_,st11,hΦ11,hk11,hent11,_,_⟩:=zB hE.h okE;obtain⟨H11,β11,hr11⟩:=hent11 E rfl rfl _ _ _ _ hr10;obtain⟨_,R',hR',hRR⟩:=Af hk11 hRk hΦ11;obtain⟨v,hv,hsat⟩:=Kc hr11 hR'
   have hfin:LeavesInM Fence.wide 2 P fn a8.tmps (λe w'=> ∃v H' β',e= .returned v/\Step w H β (kwOf [] []) (qX [] []) (vg []) w' H' β'/\R.exp.sat β' H' v/\ ∀k b,(k,some b)∈([]:List (Nat×Option Blk))->b.rep β' w' H' k) a8.defers .returning w8:=by
    have hd8:a8.defers=[{target:= .collected D,args:= #[]}]:=hr8.defers;rw[hd8];refine⟨by simp,.inl ⟨D,_,rfl,run_takeDeferred hD8,?_⟩⟩;refine⟨v,hv,v,H11,β,rfl,⟨hr11.os,hr11.tape,hr11.output,hr11.wsize,λb hb' _=>hr11.frame b hb' λk hk=>by simp[E]at hk,hr11.hle,hr11.hnew,hr11.hon,λ_ _=>rfl,λk hk=>by simp[qX]at hk,λk hk=>by simp[qX]at hk⟩,AV.sat_congr (Heap.Le.refl _) (λk hk=>by rw[FZ hR k]at hk;cases hk) (hRR _ _ _ hsat),λk b h=>by simp at h⟩
   rcases he8 with rfl|rfl
   .exact hfin
   .exact hfin
  |_=>
   obtain⟨_,_,⟨e,_⟩,_⟩:=zB hΦ2 hk2;cases e
 |_=>
  obtain⟨_,_,⟨e,_⟩,_⟩:=zB hΦ1 hk1;cases e
def cR0:Code->Code| .seq r _=>r|c=>c
def cR1:Code->Code| .seq _ (.seq r _)=>r|c=>c
def cR2:Code->Code| .seq _ (.seq _ (.seq (.seq r _) _))=>r|c=>c
def cId:Code->Nat| .seq _ (.seq _ (.seq (.seq _ (.block i _)) _))=>i|_=>0
def cS:Code->Code| .seq _ (.seq _ (.seq _ s))=>s|c=>c
def cA:Code->Code| .seq _ (.seq _ (.seq (.seq _ (.block _ (.rangeFunc _ _ a _))) _))=>a|c=>c
def cB:Code->Code| .seq _ (.seq _ (.seq (.seq _ (.block _ (.rangeFunc _ _ _ b))) _))=>b|c=>c
def XH(FB:Code)(gs p0 p1:Nat):Code:= .seq (cR0 FB) (.seq (cR1 FB) (.seq (.seq (cR2 FB) (.block (cId FB) (.rangeFunc (.tmp gs) #[p0,p1] (cA FB) (cB FB)))) (cS FB)))
def Ms:WB->Bool
 | .rig r=>(WAs.ids r).isEmpty
 |_=>false
def UZ(n k3 p0 p1:Nat)(Sm:List (Nat×WV))(Lf0:List (Nat×WB))(Ks:List Nat):Bool:=
 Nat.blt k3 99999&&Lf0.all (λp=>!Nat.beq p.1 k3&&Nat.blt p.1 99999&&Ms p.2)&&Sm.all (λp=>!Nat.beq p.1 p0&&!Nat.beq p.1 p1&&p.2.ids.all (λk=>v8 k Ks&&!Nat.beq k 199999))&&!Nat.beq p0 p1&&Nat.blt p1 n&&Ks.all (λk=>Nat.ble 100000 k)
theorem Kn{b:WB}(h:Ms b=true): ∃r,b= .rig r/\WAs.ids r=[]:=by
 cases b with
 |rig r=>exact⟨r,rfl,List.isEmpty_iff.1 h⟩
 |_=>cases h
theorem T7{Lf0:List (Nat×WB)}{k3:Nat}(h: ∀p∈Lf0,p.1≠k3/\p.1<99999/\ ∃r,p.2= .rig r/\WAs.ids r=[]): ∀p∈Lf0.map (λp=>(p.1+100000,p.2)),p.1≠k3+100000/\p.1≠199999/\ ∃r,p.2= .rig r/\WAs.ids r=[]:=λp hp=>by
 obtain⟨q,hq,rfl⟩:=q6T.1 hp;obtain⟨h1,h2,h3⟩:=h q hq;exact⟨by simp only;omega,by simp only;omega,h3⟩
theorem K3{L:List (Nat×WB)}{k:Nat}:(look L k).isSome=true↔k∈L.map (·.1):=by
 induction L with
 |nil=>simp[look]
 |cons p r ih=>
  simp only[look,q5M,q5O];by_cases e:p.1=k
  .simp[e]
  .rw[jm e];simp only[cond_false,ih]
   exact⟨.inr,λh=>h.elim (λh=>absurd h.symm e) id⟩
set_option maxHeartbeats 1000000 in
theorem mkRf(hm:P.follows .mixedOrders=true){f:FuncId}{fn:Func}{FB:Code}{n gs p0 p1 v5:Nat}(hf:P.funcs[f]?=some fn)(hb:fn.body=some FB)(hFB:FB=XH FB gs p0 p1)(hn:fn.ntmps=n)(hname:fn.name≠ "runtime.NumGoroutine")
  {G:List (Nat×Hint P)}{ts:List Ty}{bs:List Bd}{x:dens ts}{R:WV}(hx:Bnds ts bs x)(hlen:Nat.ble (jh ts bs x).length n=true)(hR:R.ids=[])(hRk:R.ok)
  {te t:Ty}{be bx b:Bd}{nb k3 M:Nat}{pre post:List WA}{Lf0:List (Nat×WB)}{Sm0 Sm Me0 Me:List (Nat×WV)}{Le0 Le:List (Nat×WB)}{Ks:List Nat}{gf:FuncId}{xs:List te.den}(φ:te.den->t.den)
  (eKs:Ks=(k3+100000)::199999::(Lf0.map (λp=>(p.1+100000,p.2))).map (·.1))(hpre:WAs.ids pre=[])(hpost:WAs.ids post=[])(hchk:UZ n k3 p0 p1 Sm Lf0 Ks=true)(hS:RelS Sm Sm0)
  (hgs:look Sm gs=some (.c (.one (.dt (.cl gf (.sl te)) bx xs))))(hag:te.agg=true)(hcall:callable P gf=true)(hbk:PQ P gf te)(hda:noDf (cA FB)=true)(hdb:noDf (cB FB)=true)
  (hφ: ∀y∈xs,Bnd t b (φ y))(hxs: ∀y∈xs,Bnd te be y)(hN:xs.length<4611686018427387904)(hM:xs.length<=M)(hMn:M<=nb)
  (hp: ∃an,Hold (wp ⟨G,n,[]⟩ (.seq (cR0 FB) (.seq (cR1 FB) (cR2 FB))) an (jM (jh ts bs x) []) (λan e st=>wpre ⟨G,n,[]⟩ 999999 an st λ_ st=>e= .normal/\hasM Sm0 st/\hasL ((k3,.rig (pre++ .vl (.slice none 0 0)::post))::Lf0) st)))
  (hasg: ∀(l:List t.den)(y:te.den),l.length<=M->y∈xs-> ∃an,Hold (wp ⟨G,n,Ks⟩ (cA FB) an (stW ((p1,.c (mkC te be y))::Sm) (SLf t b nb (k3+100000) 199999 pre post (Lf0.map λp=>(p.1+100000,p.2)) l)) (λan e st=>wpre ⟨G,n,Ks⟩ 999999 an st λ_ st=>e= .normal/\hasM ((v5,.c (.one (.ip te be y 0)))::Sm) st/\hasL (SLf t b nb (k3+100000) 199999 pre post (Lf0.map λp=>(p.1+100000,p.2)) l) st)))
  (hbody: ∀(l:List t.den)(y:te.den),l.length<=M->y∈xs-> ∃an,Hold (wp ⟨G,n,Ks⟩ (cB FB) an (stW ((v5,.c (.one (.ip te be y 0)))::Sm) (SLf t b nb (k3+100000) 199999 pre post (Lf0.map λp=>(p.1+100000,p.2)) l)) (endR t (k3+100000) pre post (Lf0.map λp=>(p.1+100000,p.2)) (l++[φ y]))))
  (hs: ∃an,Hold (wp ⟨G,n,Ks⟩ (cS FB) an (stW Sm (SLf t b nb (k3+100000) 199999 pre post (Lf0.map λp=>(p.1+100000,p.2)) (xs.reverse.map φ))) (λan e st=>(e= .normal\/e= .ret)/\hasM Me st/\hasL Le st)))
  (hMe:RnM Me0 Me)(hLe:RnB Le0 Le)(hnm:Le0.all (λp=>rgB p.2)=true)
  (he: ∃an,Hold (wpre (P:=P) ⟨G,n,[]⟩ 999999 an (stW Me0 Le0) λ_ st=>retW P fn.results.toList R .ret st)):Sig P f (argsE ts x) R.exp:=by
 simp only[UZ,q5m,q6N,q5o]at hchk;obtain⟨⟨⟨⟨⟨c1,c2⟩,c3⟩,c4⟩,c5⟩,c6⟩:=hchk;have hk3:k3<99999:=by simpa using c1
 have hLf: ∀p∈Lf0,p.1≠k3/\p.1<99999/\ ∃r,p.2= .rig r/\WAs.ids r=[]:=λp hp=>by
  obtain⟨⟨q1,q2⟩,q3⟩:=c2 p hp;exact⟨λe=>by rw[e]at q1;simp at q1,by simpa using q2,Kn q3⟩
 have hSm: ∀p∈Sm,p.1≠p0/\p.1≠p1/\ ∀k∈p.2.ids,k∈Ks/\k≠199999:=λp hp=>by
  obtain⟨⟨q1,q2⟩,q3⟩:=c3 p hp;exact⟨λe=>by rw[e]at q1;simp at q1,λe=>by rw[e]at q2;simp at q2,λk hk=>⟨z9.1 (q3 k hk).1,λe=>by have:=(q3 k hk).2;rw[e]at this;simp at this⟩⟩
 have hKs: ∀k∈Ks,100000<=k:=λk hk=>by simpa using c6 k hk
 have hl2:(xs.reverse.map φ).length<=nb:=by simp;omega
 have hlb: ∀y∈xs.reverse.map φ,Bnd t b y:=λy hy=>by
  obtain⟨z,hz,rfl⟩:=q6T.1 hy;exact hφ z (List.mem_reverse.1 hz)
 have eKs2:Ks=(SLf t b nb (k3+100000) 199999 pre post (Lf0.map λp=>(p.1+100000,p.2)) (xs.reverse.map φ)).map (·.1):=eKs;refine q53 hm hf (hb.trans (congrArg some hFB)) hn hname hx hlen hR hRk hpre hpost hk3 hLf hS hp ?_ hKs (λk hk=>by rw[eKs2];exact K3.1 hk) (λk hk=>K3.2 (by rw[<-eKs2];exact hk)) ?_ hs hMe hLe hnm he
 .intro hO E hE hdf hnE a w H β hr
  exact q2S hm hE hdf hnE eKs hKs (by omega) (T7 hLf) hpre hpost hSm (λe=>by rw[e]at c4;simp at c4) (by simpa using c5) hgs hag hcall hbk hda hdb φ hφ hxs hN hM hMn hO.s hO.l hO.p hO.q hasg hbody (q6d 2) hr
 .intro hO
  refine⟨λt v hv=>by rw[Aw]at hv;exact hO.s _ (qR hv),λk y hy=>?_,λt ht=>absurd rfl ht,λt ht=>absurd rfl ht⟩;rw[vX]at hy;simp only[SLf,look]at hy;by_cases h1:k3+100000=k
  .subst h1;simp at hy;subst hy
   exact WAs.ok_app.2 ⟨hO.p,λz hz=>by
    rcases q5O.1 hz with rfl|hz
    .exact q6e hM hMn
    .exact hO.q z hz⟩
  .rw[jm h1]at hy;simp only[cond_false]at hy
   by_cases h2:199999=k
   .subst h2;simp at hy;subst hy;exact λy hy=>hlb y (by rw[List.map_reverse];exact hy)
   .rw[jm h2]at hy;exact hO.l _ (qR hy)
end
end
abbrev q9I:(Int×Int×List Rat×List Rat×List (List ((Rat×Rat×Rat)×Rat)))×ByteArray:=((0,(0,([],([],[])))),ByteArray.empty)
abbrev q9J:(Rat×Rat×Rat)×Rat:=((0,(0,0)),0)
abbrev q9H:Type:=Rat×Rat×Rat
abbrev q9G:Type:=Rat×Rat×Rat×Rat
abbrev q9F:Type:=List (q9H)
abbrev q9E:Type:=((q9H)×(q9H)×Rat×Rat×Rat)×Rat×Rat×Rat
abbrev q9D:Type:=(q9H)×Rat
abbrev q9C:Type:=List (q9D)
abbrev q9B:Type:=List (q9C)
abbrev q9A:Type:=Int×List Rat×q9C
abbrev q9z:Type:=(q9A)×List Rat×Int×Int×Bool
abbrev q9y:Type:=Int×Int×List Rat×List Rat×q9B
abbrev q9x:Type:=List ((q9y)×ByteArray)
abbrev q9w:Type:=List (q9A)
abbrev q9v:Bd:= .n 8
abbrev q9u:Bd:= .n 6
abbrev q9t:Bd:= .n 4
abbrev q9s:Bd:= .n 3
abbrev q9r:Bd:= .n 2
abbrev q9q:Bd:= .n 1
abbrev q9p:Bd:= .n 64
abbrev q9o:Bd:= .n 32
abbrev q9n:Bd:= .n 26
abbrev q9m:Bd:= .n 16
abbrev q9l:Bd:= .n 256
abbrev q9k:Bd:= .n 255
abbrev q9j:Bd:= .n 8192
abbrev q9i:Bd:= .n 4096
abbrev q9h:Bd:= .n 2000
abbrev q9g:Bd:= .n 1100
abbrev q9f:Bd:= .n 1024
abbrev q9e:Ty:= .sl .rat
abbrev q9d:Ty:= .nat .u8
abbrev q9c:Bd:= .n 65536
abbrev q9b:Bd:= .n 19208
abbrev q9a:Bd:= .n 16384
abbrev q99:Ty:= .nat .u64
abbrev q98:Ty:= .nat .u32
abbrev q97:Ty:= .nat .i64
abbrev q96:Bd:= .n 524288
abbrev q95:Bd:= .n 262144
abbrev q94:Bd:= .n 200000
abbrev q93:Bd:= .n 196867
abbrev q92:Bd:= .n 131072
abbrev q91:Ty:= .int .i64
abbrev q90:Bd:= .n 8388608
abbrev q8Z:Bd:= .n 4194304
abbrev q8Y:Bd:= .n 1048576
abbrev q8X:Bd:= .s 4 q9q
abbrev q8W:Bd:= .s 3 q9s
abbrev q8V:Bd:= .s 3 q9r
abbrev q8U:Bd:= .s 3 q9q
abbrev q8T:Bd:= .s 2 q9r
abbrev q8S:Bd:= .s 2 q9q
abbrev q8R:Bd:= .n 33554432
abbrev q8Q:Bd:= .n 16777216
abbrev q8P:Bd:= .s 16 q9u
abbrev q8O:Bd:= .n 268435456
abbrev q8N:Bd:= .n 134217728
abbrev q8M:Bd:= .s 6 q9l
abbrev q8L:Ty:= .pr .rat .rat
abbrev q8K:Bd:= .n 4294967296
abbrev q8J:Bd:= .n 4294967295
abbrev q8I:Bd:= .n 1073741824
abbrev q8H:Bd:= .s 16 q9l
abbrev q8G:Bd:= .n 68719476740
abbrev q8F:Bd:= .n 68719476736
abbrev q8E:Bd:= .n 34359738371
abbrev q8D:Bd:= .n 34359738370
abbrev q8C:Bd:= .n 34359738369
abbrev q8B:Bd:= .n 32212254721
abbrev q8A:Bd:= .n 17179869184
abbrev q8z:Ty:= .sl q98
abbrev q8y:Ty:= .sl q91
abbrev q8x:Bd:= .s 64 q9i
abbrev q8w:Bd:= .s 64 q9f
abbrev q8v:Bd:= .s 32 q9h
abbrev q8u:Bd:= .s 17 (.n 1164)
abbrev q8t:Bd:= .s 16 q9i
abbrev q8s:Bd:= .s 16 q9g
abbrev q8r:Bd:= .s 16 (.n 1028)
abbrev q8q:Bd:= .n 137438953536
abbrev q8p:Bd:= .n 137438953472
abbrev q8o:Bd:= .p q9q q9q
abbrev q8n:Bd:= .n 1099511627872
abbrev q8m:Bd:= .n 1099511627776
abbrev q8l:Bd:= .s 1048576 q9a
abbrev q8k:Bd:= .n 9223372036854775808
abbrev q8j:Bd:= .n 4611686018427387904
abbrev q8i:Bd:= .s 1048576 (.n 4194308)
abbrev q8h:Bd:= .n 18446744073709551615
abbrev q8g:Bd:= .n 18446744065119617025
abbrev q8f:Ty:= .pr .rat q8L
abbrev q8e:Bd:= .s 8388608 q8F
abbrev q8d:Bd:= .s 1048576 q8F
abbrev q8c:Bd:= .s 1048576 (.n 34359738368)
abbrev q8b:Bd:= .s 1048576 q8A
abbrev q8a:Bd:= .p q9r q8o
abbrev q89:Bd:= .p q9q q8o
abbrev q88:Ty:= .sl q8f
abbrev q87:Bd:= .p q9p (.p q9p q9p)
abbrev q86:Bd:= .s 1099511627776 q8J
abbrev q85:Ty:= .pr q8y q97
abbrev q84:Bd:= .s 1048576 q8k
abbrev q83:Ty:= .pr .rat q8f
abbrev q82:Ty:= .pr q8f .rat
abbrev q81:Bd:= .p q9r (.p q9r (.s 9 q9s))
abbrev q80:Bd:= .p q9r (.p q9r (.s 9 q9r))
abbrev q7Z:Bd:= .p q9r (.p q9r (.s 9 q9q))
abbrev q7Y:Bd:= .p q9r (.p q9q (.s 6 q9q))
abbrev q7X:Bd:= .p q9q (.p q9r (.s 6 q9q))
abbrev q7W:Bd:= .p q9q (.p q9q (.s 4 q9r))
abbrev q7V:Bd:= .p q9q (.p q9q q8X)
abbrev q7U:Ty:= .sl q88
abbrev q7T:Bd:= .p q9f (.p q9f q9f)
abbrev q7S:Bd:= .p q8a q9q
abbrev q7R:Bd:= .p q89 q9q
abbrev q7Q:Bd:= .p q9c (.p q9c q9c)
abbrev q7P:Bd:= .p q9r q89
abbrev q7O:Bd:= .p q9q q89
abbrev q7N:Ty:= .sl q82
abbrev q7M:Bd:= .p q87 q9p
abbrev q7L:Bd:= .p (.p (.n 12) (.p (.n 12) (.n 12))) (.n 12)
abbrev q7K:Bd:= .p (.n 24) (.p (.n 24) (.p (.n 24) (.n 24)))
abbrev q7J:Bd:= .p q8Y (.p q8Y q8Y)
abbrev q7I:Ty:= .sl q7N
abbrev q7H:Bd:= .s 9223372036854775807 q8k
abbrev q7G:Bd:= .p (.n 67108868) (.p (.n 67108868) (.n 67108868))
abbrev q7F:Bd:= .s 3 q7M
abbrev q7E:Bd:= .s 16 q7L
abbrev q7D:Bd:= .p (.p (.n 1600) (.p (.n 1600) (.n 1600))) (.n 1600)
abbrev q7C:Bd:= .p q8N (.p q8N q8N)
abbrev q7B:Bd:= .p q84 q8Y
abbrev q7A:Bd:= .s 2 (.s 2 q7S)
abbrev q7z:Bd:= .p q8K (.p q8K q8K)
abbrev q7y:Bd:= .s 64 q7G
abbrev q7x:Bd:= .p q9p (.p q9p q87)
abbrev q7w:Bd:= .p q8F (.p q8F q8F)
abbrev q7v:Bd:= .s 32 (.p (.p q9h (.p q9h q9h)) q9h)
abbrev q7u:Bd:= .s 16 q7E
abbrev q7t:Bd:= .s 16 q7D
abbrev q7s:Bd:= .p (.p q94 (.p q94 q94)) q94
abbrev q7r:Bd:= .p (.p q93 (.p q93 q93)) q93
abbrev q7q:Bd:= .p (.p q92 (.p q92 q92)) q92
abbrev q7p:Bd:= .p q96 (.p q96 (.p q96 q96))
abbrev q7o:Bd:= .s 16 (.p q7Q q9c)
abbrev q7n:Bd:= .p q7J q8Y
abbrev q7m:Bd:= .p q8Y q7J
abbrev q7l:Bd:= .s 1048576 q7C
abbrev q7k:Bd:= .s 32 q7v
abbrev q7j:Bd:= .s 16 q7q
abbrev q7i:Bd:= .p (.p q8Q (.p q8Q q8Q)) q8Q
abbrev q7h:Bd:= .p q8R (.p q8R (.p q8R q8R))
abbrev q7g:Bd:= .s 1048576 (.p (.p q95 (.p q95 q95)) q95)
abbrev q7f:Ty:= .pr q91 (.pr q9e (.sl q83))
abbrev q7e:Ty:= .pr q91 (.pr q9e q7N)
abbrev q7d:Bd:= .s 1048576 q7n
abbrev q7c:Bd:= .s 1048576 q7l
abbrev q7b:Bd:= .p q7V q7V
abbrev q7a:Bd:= .p q9q (.p q8X (.s 2 q7P))
abbrev q79:Bd:= .p q9q (.p q8X (.s 2 q7O))
abbrev q78:Bd:= .p q7w q8F
abbrev q77:Ty:= .pr q91 (.pr q91 (.pr q91 (.pr q91 q91)))
abbrev q76:Bd:= .p q9u (.p q8P (.s 16 q7K))
abbrev q75:Bd:= .s 2 q7a
abbrev q74:Bd:= .s 8388608 q78
abbrev q73:Bd:= .s 1048576 (.p (.p q8A (.p q8A q8A)) q8A)
abbrev q72:Bd:= .p q9v (.p q8H q7t)
abbrev q71:Bd:= .p q9v (.p (.s 16 (.n 1200)) q7t)
abbrev q70:Bd:= .p q9v (.p q8s (.s 16 (.p (.p q9i (.p q9i q9i)) q9i)))
abbrev q6Z:Bd:= .p q9v (.p q8s q7j)
abbrev q6Y:Bd:= .p q9v (.p q8l q7g)
abbrev q5k:Bd:= .p q9q (.p q9q (.p q8X (.p q8X q7A)))
abbrev q1X:Ty:= .pr q91 (.pr q91 (.pr q9e (.pr q9e q7I)))
abbrev q1U:Ty:= .pr (.pr q8f (.pr q8f q8f)) q8f
abbrev Y6:Bd:= .p q9u (.p q9u (.p q8P (.p q8P q7u)))
abbrev Y4:Bd:= .p q8Y (.p (.s 1048576 q8Y) q7d)
abbrev XD:Ty:= .pr q1X .str
abbrev X5:Bd:= .p q9v (.p q9v (.p q8H (.p q8H (.s 16 q7t))))
abbrev X2:Bd:= .p q9v (.p q9v (.p q8v (.p q8v q7k)))
abbrev Wv:Ty:= .pr q7e (.pr q9e (.pr q91 (.pr q91 .bool)))
abbrev Wn:Bd:= .p q9v (.p q9v (.p q8s (.p q8s (.s 16 q7j))))
abbrev Tz:Bd:= .p (.p q87 (.p q87 q87)) q87
abbrev R0:Bd:= .p X5 q9p
abbrev P1:Bd:= .p q72 (.p (.s 16 (.n 1026)) (.p q9p (.p q9p .u)))
abbrev FR:Ty:= .pr (.sl XD) q8y
abbrev Fg:Bd:= .p (.s 4 R0) (.s 0 (.n 0))
def bdC(fn:Func):Code:=match fn.body with|some c=>c|none=> .skip
theorem PR{fn:Func}(h:fn.body.isSome=true):fn.body=some (bdC fn):=by
 unfold bdC
 cases hb:fn.body with
 |none=>rw[hb]at h;cases h
 |some c=>rfl
theorem mF{f:FuncId}{ts:List Ty}{bs:List Bd}{pre:dens ts->List Prop}{res:List Bd->dens ts->WV}{fn:Func}(hf:Pg.funcs[f]?=some fn)(G:List (Nat×Hint Pg))
  (hok:Cur ts λx=> ∀b,Bnds ts b x->(∀p∈pre x,p)->(res b x).ok)
  (h:Cur ts λx=>Bnds ts bs x->(∀p∈pre x,p)-> ∃ann,Hold (wp ⟨G,fn.ntmps,[]⟩ (bdC fn) ann (jM (jh ts bs x) []) λan e st=>wpre ⟨G,fn.ntmps,[]⟩ 999999 an st λ_ st=>retW Pg fn.results.toList (res bs x) e st))
  (hb:fn.body.isSome=true:=by rfl)(hname:fn.name≠ "runtime.NumGoroutine" :=by decide)
  (hl: ∀x,Nat.ble (jh ts bs x).length fn.ntmps=true:=by exact λ_=>rfl)(hi: ∀x,(res bs x).ids=[]:=by exact λ_=>rfl)(he: ∀b x,(res b x).exp=(res bs x).exp:=by exact λ_ _=>rfl):(FI.mk f ts bs pre res).OK Pg:=
 mkF hmix fn.ntmps hf (PR hb) rfl hname G hok h hl hi he
theorem qy{k:IntKind}{b x:Nat}(h:x<=b:=by(try simp only[q5G,q5H,q5K])<;>omega):Bnd (.nat k) (.n b) x:=h
theorem iBd{k:IntKind}{b:Nat}{x:Int}(h:Int.natAbs x<=b:=by(try simp only[q5G,q5H,q5K])<;>omega):Bnd (.int k) (.n b) x:=h
theorem Lq{p:Prop}(h:p:=by(try simp only[q5G,q5H,q5K])<;>omega):p:=h
theorem kX{p q:Prop}(x:p)(h:p=q:=by kernel_rfl):Hold q:=kcast h x
abbrev oO(t:Ty)(b:Bd)(x:t.den):WV:=WV.c (WC.one (WA.dt t b x))
abbrev oA(t:Ty)(b:Bd)(x:t.den):WV:=WV.c (WC.agg [WA.dt t b x])
noncomputable abbrev Hint.cI{i:FI}(h:i.OK Pg):Hint Pg:= .c (FI.c h)
theorem I2{a b r:Prop}(ha:a)(hb:b)(z:r):a/\b/\r:=⟨ha,hb,z⟩
theorem I3{a b c r:Prop}(ha:a)(hb:b)(hc:c)(z:r):a/\b/\c/\r:=⟨ha,hb,hc,z⟩
theorem I4{a b c d r:Prop}(ha:a)(hb:b)(hc:c)(hd:d)(z:r):a/\b/\c/\d/\r:=⟨ha,hb,hc,hd,z⟩
theorem I5{a b c d e r:Prop}(ha:a)(hb:b)(hc:c)(hd:d)(he:e)(z:r):a/\b/\c/\d/\e/\r:=⟨ha,hb,hc,hd,he,z⟩
theorem I6{a b c d e f r:Prop}(ha:a)(hb:b)(hc:c)(hd:d)(he:e)(hf:f)(z:r):a/\b/\c/\d/\e/\f/\r:=⟨ha,hb,hc,hd,he,hf,z⟩
theorem Id2{a r:Prop}(h:a)(z:r):a/\a/\r:=⟨h,h,z⟩
theorem Id4{a r:Prop}(h:a)(z:r):a/\a/\a/\a/\r:=⟨h,h,h,h,z⟩
theorem D0:FI.OK ⟨200,[q9e],[q8b],λ_=>[],λb z=>(λ(l:List Rat)=>oO (.cl 230 q9e) (b0 b) l) z⟩ Pg:=mF Tryz.func200 [] (λ(l:List Rat) b hx hp=>q8 (show Bnd q9e (b0 b) l from Bnds.h1 hx) rfl) (λ(l:List Rat) hx hp=>by
 refine⟨.pre 1 (.ex (frzP 1 q9e q8b [1]))<|.h 1 0 (.ext zy) .nil,kX ((q6J l))⟩)
theorem CZ:FI.OK ⟨145,[q7N],[q73],λ_=>[],λb z=>(λ(l:q9C)=>oO (.cl 201 q7N) (b0 b) l) z⟩ Pg:=mF Tryz.func145 [] (λ(l:q9C) b hx hp=>q8 (show Bnd q7N (b0 b) l from Bnds.h1 hx) rfl) (λ(l:q9C) hx hp=>by
 refine⟨.pre 1 (.ex (frzP 1 q7N q73 [1]))<|.h 1 0 (.ext zy) .nil,kX ((q6J l))⟩)
theorem BZ:FI.OK ⟨142,[q8z],[q86],λz=>(λ(ls:List Nat)=>[∀u∈ls,u<4294967296]) z,λb z=>(λ(ls:List Nat)=>oO .mag (.n (32*(b0 b).len)) (qa ls)) z⟩ Pg:=mF Tryz.func142 [] (λ(ls:List Nat) b hx hp=>q8 (ED (hp _ (q5Q)) (Bnds.h1 hx).sl.1) rfl) (λ(ls:List Nat) hx hp=>by
 have hl0:ls.length<=1099511627776:=hx.1;have hp0: ∀u∈ls,u<4294967296:=hp _ (q5Q)
 refine⟨.loop [.s 3 q97 q8m] (λ(k:Nat)=>k<=ls.length/\qa (ls.take k)=qa ls) (λ(k:Nat)=>k) λ(k:Nat)=> .cond (.h 2 5 (.i .sub)<|.cond (.h 3 1 (.i .sub) .nil)<|.h 4 2 (.mag (qa ls) 70368744177664) .nil)<|.h 4 2 (.mag (qa ls) 70368744177664) .nil,kX (I (⟨q6d _,by rw[q5Y]⟩:ls.length<=ls.length/\qa (ls.take ls.length)=qa ls) λ(k:Nat)(hb1:HB [.s 3 q97 q8m] k)(hC:k<=ls.length/\qa (ls.take k)=qa ls)=>have hv6:=(show k<=1099511627776 from hb1);have hk:=hC.1;Sp (0<k) (λh2=>I2 (?_:1<=k) (?_:k-1<ls.length)<|Sp (ls.getD (k-1) 0=0) (λh3=>I (?_:1<=k) (q6K (⟨by omega,Fv hC.1 (by omega) hC.2 (by omega)⟩:k-1<=ls.length/\qa (ls.take (k-1))=qa ls) (?_:k-1<k))) λh4=>I3 (?_:k<=ls.length) (Ai hp0 hC.1 hC.2 (by omega):ls.take k=limbs (qa ls)) (qd (by decide) (ED hp0 hl0):qM (qa ls) 70368744177664) ((q6J (qa ls)))) λh5=>I3 (?_:k<=ls.length) (Ai hp0 hC.1 hC.2 (by omega):ls.take k=limbs (qa ls)) (qd (by decide) (ED hp0 hl0):qM (qa ls) 70368744177664) ((q6J (qa ls))))⟩<;>omega)
abbrev S7(b:List Bd)(ls:List Nat):WV:=oO .mag (.n (32*(b0 b).len)) (qa ls)
theorem TR(ls:List Nat)(hx:Bnds [q8z] [q86] ls)(hp: ∀c0∈([∀u∈ls,u<4294967296]:List Prop),c0):Sig Pg 142 (argsE [q8z] ls) (S7 [q86] ls).exp:=BZ.sig ls hx hp
theorem TQ(b:List Bd)(x:Nat)(hx:Bnds [.mag] b x)(hp: ∀p∈([]:List Prop),p):(WV.c (.one (.dt .mag (b0 b) x))).ok:=q8 (Bnds.h1 hx) rfl
theorem S6(x:Nat)(hx:Bnds [.mag] [.n 1099511627776] x)(hp: ∀p∈([]:List Prop),p):Sig Pg 142 (argsE [.mag] x) (WV.c (.one (.dt .mag q8m x))).exp:=by
 have h:=TR (limbs x) ⟨q6e (qq (q6b hx)) (by decide),(Bnd.limbs hx).2⟩ (by intro p hp;simp only[q5O,q5W,or_false]at hp;subst hp;exact jr x);unfold S7 at h;rw[qN,<-F0]at h;exact h
def Co:Ctr Pg:=⟨142,[.mag],[.n 1099511627776],λz=>[],λb z=>oO .mag (b0 b) z,λz hx hp=>S6 z hx hp,λ_ _=>rfl,λb z hx hp=>TQ b z hx hp⟩
theorem U2:FI.OK ⟨141,[.mag,.mag],[q8m,q8m],λ_=>[],λb z=>(λ(x:Nat)(y:Nat)=>oO .mag (.n (max (b0 b).nb (b1 b).nb+1)) (x+y)) z.1 z.2⟩ Pg:=mF Tryz.func141 [] (λ(x:Nat)(y:Nat) b hx hp=>q8 (G6 (Bnds.h2 hx).1.mag (Bnds.h2 hx).2.mag) rfl) (λ(x:Nat)(y:Nat) hx hp=>by
 have hx0:qM x 1099511627776:=hx.1;have hl0:(limbs x).length<=34359738369:=qq (q6b hx0);have hx1:qM y 1099511627776:=hx.2;have hl1:(limbs y).length<=34359738369:=qq (q6b hx1)
 refine⟨.cond (.h 3 3 (.mk (.arr q98 q8J))<|.loop [.s 22 q97 q8C,.s 6 q99 q9q,.a 19 q98 q8J] (λ((i,c,out):Nat×Nat×List Nat)=>AddI y x i c out) (λ((i,c,out):Nat×Nat×List Nat)=>(limbs y).length-i) λ((i,c,out):Nat×Nat×List Nat)=> .cond .nil<|.pre 15 (.frz 19 true [5])<|.h 15 1 (.cI BZ) .nil)<|.h 3 3 (.mk (.arr q98 q8J))<|.loop [.s 22 q97 q8C,.s 6 q99 q9q,.a 19 q98 q8J] (λ((i,c,out):Nat×Nat×List Nat)=>AddI x y i c out) (λ((i,c,out):Nat×Nat×List Nat)=>(limbs x).length-i) λ((i,c,out):Nat×Nat×List Nat)=> .cond .nil<|.pre 15 (.frz 19 true [5])<|.h 15 1 (.cI BZ) .nil,kX (Sp ((limbs x).length<(limbs y).length) (λh1=>I2 (?_:((limbs y).length)+1=((limbs y).length)+1) (AddI.start y x:AddI y x 0 0 (List.replicate (((limbs y).length)+1) (0:Nat))) λ(i:Nat)(c:Nat)(out:List Nat)(hb2:HB [.s 22 q97 q8C,.s 6 q99 q9q,.a 19 q98 q8J] (i,c,out))(hI:AddI y x i c out)=>have hv7:=(show i<=34359738369 from hb2.1);have hv8:=(show c<=1 from hb2.2.1);have hv9:=(show∀u∈out,u<=4294967295 from hb2.2.2);have hIl:=hI.hl;have hIi:=hI.hi;have hIc:=hI.hc;Sp (i<(limbs y).length) (λh3=>I (?_:i<(limbs y).length)<|Sp (i<(limbs x).length) (λh4=>I4 (?_:i<(limbs x).length) (?_:i<((limbs y).length)+1) (?_:i<out.length) (qy:Bnd q97 q8C (i+1)) (q6K (hI.step (by omega) (by first|rfl|rw[qS (l:=limbs x) (by omega),q64]):AddI y x (i+1) (((c+((limbs y).getD i 0))+((limbs x).getD i 0))/2^32) (out.set i (((c+((limbs y).getD i 0))+((limbs x).getD i 0))%4294967296))) (?_:(limbs y).length-(i+1)<(limbs y).length-i))) λh5=>I3 (?_:i<((limbs y).length)+1) (?_:i<out.length) (qy:Bnd q97 q8C (i+1)) (q6K (hI.step (by omega) (by first|rfl|rw[qS (l:=limbs x) (by omega),q64]):AddI y x (i+1) ((c+((limbs y).getD i 0))/2^32) (out.set i ((c+((limbs y).getD i 0))%4294967296))) (?_:(limbs y).length-(i+1)<(limbs y).length-i))) λh6=>have hF:=hI.fin' (by omega) (by omega);I4 (?_:(limbs y).length<((limbs y).length)+1) (?_:(limbs y).length<out.length) (HO (by omega):((limbs y).length)+1=(out.set ((limbs y).length) c).length) (hF.2: ∀u∈out.set ((limbs y).length) c,u<4294967296) ((by rw[hF.1]<;>omega:qa (out.set ((limbs y).length) c)=x+y))) λh10=>I2 (?_:((limbs x).length)+1=((limbs x).length)+1) (AddI.start x y:AddI x y 0 0 (List.replicate (((limbs x).length)+1) (0:Nat))) λ(i:Nat)(c:Nat)(out:List Nat)(hb11:HB [.s 22 q97 q8C,.s 6 q99 q9q,.a 19 q98 q8J] (i,c,out))(hI:AddI x y i c out)=>have hv16:=(show i<=34359738369 from hb11.1);have hv17:=(show c<=1 from hb11.2.1);have hv18:=(show∀u∈out,u<=4294967295 from hb11.2.2);have hIl:=hI.hl;have hIi:=hI.hi;have hIc:=hI.hc;Sp (i<(limbs x).length) (λh12=>I (?_:i<(limbs x).length)<|Sp (i<(limbs y).length) (λh13=>I4 (?_:i<(limbs y).length) (?_:i<((limbs x).length)+1) (?_:i<out.length) (qy:Bnd q97 q8C (i+1)) (q6K (hI.step (by omega) (by first|rfl|rw[qS (l:=limbs y) (by omega),q64]):AddI x y (i+1) (((c+((limbs x).getD i 0))+((limbs y).getD i 0))/2^32) (out.set i (((c+((limbs x).getD i 0))+((limbs y).getD i 0))%4294967296))) (?_:(limbs x).length-(i+1)<(limbs x).length-i))) λh14=>I3 (?_:i<((limbs x).length)+1) (?_:i<out.length) (qy:Bnd q97 q8C (i+1)) (q6K (hI.step (by omega) (by first|rfl|rw[qS (l:=limbs y) (by omega),q64]):AddI x y (i+1) ((c+((limbs x).getD i 0))/2^32) (out.set i ((c+((limbs x).getD i 0))%4294967296))) (?_:(limbs x).length-(i+1)<(limbs x).length-i))) λh15=>have hF:=hI.fin' (by omega) (by omega);I4 (?_:(limbs x).length<((limbs x).length)+1) (?_:(limbs x).length<out.length) (HO (by omega):((limbs x).length)+1=(out.set ((limbs x).length) c).length) (hF.2: ∀u∈out.set ((limbs x).length) c,u<4294967296) ((by rw[hF.1]<;>omega:qa (out.set ((limbs x).length) c)=x+y)))⟩<;>omega)
theorem KO:FI.OK ⟨84,[.mag,.mag],[q8m,q8m],λ_=>[],λb z=>(λ(x:Nat)(y:Nat)=>oO .mag (.n ((b0 b).nb+(b1 b).nb)) (x*y)) z.1 z.2⟩ Pg:=mF Tryz.func84 [] (λ(x:Nat)(y:Nat) b hx hp=>q8 (G7 (Bnds.h2 hx).1.mag (Bnds.h2 hx).2.mag) rfl) (λ(x:Nat)(y:Nat) hx hp=>by
 have hx0:qM x 1099511627776:=hx.1;have hl0:(limbs x).length<=34359738369:=qq (q6b hx0);have hx1:qM y 1099511627776:=hx.2;have hl1:(limbs y).length<=34359738369:=qq (q6b hx1)
 refine⟨.h 1 5 (.mk (.arr q98 q8J))<|.loop [.s 19 q97 q8C,.a 16 q98 q8J] (λ((i,out):Nat×List Nat)=>MulI x y i out) (λ((i,out):Nat×List Nat)=>(limbs x).length-i) λ((i,out):Nat×List Nat)=> .cond (.cond .nil<|.loop [.s 28 q97 q8C,.s 8 q99 q8J,.a 16 q98 q8J] (λ((j,c,out2):Nat×Nat×List Nat)=>MulJ x y i ((limbs x).getD i 0) j c out out2) (λ((j,c,out2):Nat×Nat×List Nat)=>(limbs y).length-j) λ((j,c,out2):Nat×Nat×List Nat)=> .nil)<|.pre 16 (.frz 16 true [5])<|.h 16 1 (.cI BZ) .nil,kX (I2 (?_:((limbs x).length)+((limbs y).length)=((limbs x).length)+((limbs y).length)) (MulI.start x y:MulI x y 0 (List.replicate (((limbs x).length)+((limbs y).length)) (0:Nat))) λ(i:Nat)(out:List Nat)(hb1:HB [.s 19 q97 q8C,.a 16 q98 q8J] (i,out))(hM:MulI x y i out)=>have hv12:=(show i<=34359738369 from hb1.1);have hv13:=(show∀u∈out,u<=4294967295 from hb1.2);have hMl:=hM.hl;have hMi:=hM.hi;Sp (i<(limbs x).length) (λh2=>I (?_:i<(limbs x).length)<|Sp ((limbs x).getD i 0=0) (λh3=>I (qy:Bnd q97 q8C (i+1)) (q6K (hM.skip (by omega) (by omega):MulI x y (i+1) out) (?_:(limbs x).length-(i+1)<(limbs x).length-i))) λh4=>I (MulJ.start hM:MulJ x y i ((limbs x).getD i 0) 0 0 out out) λ(j:Nat)(c:Nat)(out2:List Nat)(hb5:HB [.s 28 q97 q8C,.s 8 q99 q8J,.a 16 q98 q8J] (j,c,out2))(hJ:MulJ x y i ((limbs x).getD i 0) j c out out2)=>have hv8:=(show j<=34359738369 from hb5.1);have hv9:=(show c<=4294967295 from hb5.2.1);have hv10:=(show∀u∈out2,u<=4294967295 from hb5.2.2);have hJl:=hJ.hl;have hJj:=hJ.hj;have hJc:=hJ.hc;Sp (j<(limbs y).length) (λh6=>I6 (?_:j<(limbs y).length) (?_:i+j<((limbs x).length)+((limbs y).length)) (?_:i+j<out2.length) (?_:i+j<((limbs x).length)+((limbs y).length)) (?_:i+j<out2.length) (qy:Bnd q97 q8C (j+1)) (q6K ((hJ.step (by omega) (by omega) (qc x i) rfl).1:MulJ x y i ((limbs x).getD i 0) (j+1) ((c+((((limbs x).getD i 0)*((limbs y).getD j 0))+(out2.getD (i+j) 0)))/2^32) out (out2.set (i+j) ((c+((((limbs x).getD i 0)*((limbs y).getD j 0))+(out2.getD (i+j) 0)))%4294967296))) (?_:(limbs y).length-(j+1)<(limbs y).length-j))) λh7=>I3 (?_:i+((limbs y).length)<((limbs x).length)+((limbs y).length)) (?_:i+((limbs y).length)<out2.length) (qy:Bnd q97 q8C (i+1)) (q6K (MulJ.fin' hM (by omega) hJ (by omega):MulI x y (i+1) (out2.set (i+((limbs y).length)) c)) (?_:(limbs x).length-(i+1)<(limbs x).length-i))) λh11=>I (?_:((limbs x).length)+((limbs y).length)=out.length) (have hF:=hM.fin' (by omega);I (hF.2: ∀u∈out,u<4294967296) ((hF.1:qa out=x*y))))⟩<;>omega)
theorem OJ:FI.OK ⟨148,[.mag,.mag],[q8m,q8m],λ_=>[],λb z=>(λ(x:Nat)(y:Nat)=>oO q91 q9q (j3 x y)) z.1 z.2⟩ Pg:=mF Tryz.func148 [(142,.c Co)] (λ(x:Nat)(y:Nat) b hx hp=>q8 (Nv x y) rfl) (λ(x:Nat)(y:Nat) hx hp=>by
 have hx0:qM x 1099511627776:=hx.1;have hl0:(limbs x).length<=34359738369:=qq (q6b hx0);have hx1:qM y 1099511627776:=hx.2;have hl1:(limbs y).length<=34359738369:=qq (q6b hx1)
 refine⟨.cond .nil<|.loop [.s 5 q91 q8F] (λ(z:Int)=>CmpI x y z) (λ(z:Int)=>(z+1).toNat) λ(z:Int)=> .cond (.h 9 2 (.ix z.toNat)<|.h 9 6 (.ix z.toNat)<|.cond (.h 10 2 (.ix z.toNat)<|.h 10 6 (.ix z.toNat) .nil) .nil) .nil,kX (Sp ((limbs x).length≠(limbs y).length) (λh1=>Sp ((limbs x).length<(limbs y).length) (λh2=>(?_:(-1)=j3 x y)) λh3=>(?_:1=j3 x y)) λh4=>I (CmpI.start (by omega):CmpI x y ((((limbs x).length:Nat):Int) -1)) λ(z:Int)(hb5:HB [.s 5 q91 q8F] z)(hC:CmpI x y z)=>have hv12:=(show Int.natAbs z<=68719476736 from hb5);have hC0:=hC.h0;have hC1:=hC.h1;Sp (0<=z) (λh6=>I4 (?_:z=((z.toNat:Nat):Int)) (?_:z.toNat<(limbs x).length) (?_:z=((z.toNat:Nat):Int)) (?_:z.toNat<(limbs y).length)<|Sp ((limbs x).getD z.toNat 0≠(limbs y).getD z.toNat 0) (λh7=>I4 (?_:z=((z.toNat:Nat):Int)) (?_:z.toNat<(limbs x).length) (?_:z=((z.toNat:Nat):Int)) (?_:z.toNat<(limbs y).length)<|Sp ((limbs x).getD z.toNat 0<(limbs y).getD z.toNat 0) (λh8=>(?_:(-1)=j3 x y)) λh9=>(?_:1=j3 x y)) λh10=>I (iBd:Bnd q91 q8F (z-1)) (q6K ((hC.at (by omega) (by omega)).1 (by omega):CmpI x y (z-1)) (?_:((z-1)+1).toNat<(z+1).toNat))) λh11=>((hC.fin (by omega)).symm:0=j3 x y))⟩<;>first|omega|(first|exact(LE (by omega)).symm|exact((hC.at (by omega) (by omega)).2.1 (by omega)).symm)|(first|exact(LF (by omega)).symm|exact((hC.at (by omega) (by omega)).2.2 (by omega)).symm))
theorem q56:FI.OK ⟨196,[.mag,.mag],[q8m,q8m],λ_=>[],λb z=>(λ(x:Nat)(y:Nat)=> .tup [.one (.dt .mag (b0 b) (x-y)),.one (.dt q91 (.n 7) (subC x y))]) z.1 z.2⟩ Pg:=mF Tryz.func196 [(142,.c Co),(148,.cI OJ)] (λ(x:Nat)(y:Nat) b hx hp=>q9 (q8 (Bnd.magLe (Bnds.h2 hx).1 (Nat.sub_le _ _)) rfl) (q9 (q8 (S4 x y) rfl) qr)) (λ(x:Nat)(y:Nat) hx hp=>by
 have hx0:qM x 1099511627776:=hx.1;have hl0:(limbs x).length<=34359738369:=qq (q6b hx0);have hx1:qM y 1099511627776:=hx.2;have hl1:(limbs y).length<=34359738369:=qq (q6b hx1)
 refine⟨.cond .nil<|.h 4 2 (.mk (.arr q98 q8J))<|.loop [.s 23 q97 q8C,.s 7 q99 q9q,.a 20 q98 q8J] (λ((i,c,out):Nat×Nat×List Nat)=>SubI x y i c out) (λ((i,c,out):Nat×Nat×List Nat)=>(limbs x).length-i) λ((i,c,out):Nat×Nat×List Nat)=> .cond (.cond (.h 12 3 (.i (.n (dif ((limbs x).getD i 0) (c+((limbs y).getD i 0))) 18446744073709551615)) .nil)<|.h 12 3 (.i (.n (dif ((limbs x).getD i 0) c) 18446744073709551615)) .nil)<|.pre 16 (.frz 20 true [6])<|.h 16 1 (.cI BZ) .nil,kX (Sp (j3 x y<0) (λh1=>q6K (by have:=vt.1 (show j3 x y<0 by assumption);omega:0=x-y) ((if_pos (vt.1 (by assumption))).symm:7=subC x y)) λh2=>have hp0:=(show y<=x from q6U (mt vt.2 (by assumption)));have hlen:=zU hp0;I2 (?_:(limbs x).length=(limbs x).length) (SubI.start x y:SubI x y 0 0 (List.replicate ((limbs x).length) (0:Nat))) λ(i:Nat)(c:Nat)(out:List Nat)(hb3:HB [.s 23 q97 q8C,.s 7 q99 q9q,.a 20 q98 q8J] (i,c,out))(hI:SubI x y i c out)=>have hv8:=(show i<=34359738369 from hb3.1);have hv9:=(show c<=1 from hb3.2.1);have hv10:=(show∀u∈out,u<=4294967295 from hb3.2.2);have hIl:=hI.hl;have hIi:=hI.hi;have hIc:=hI.hc;have hg1:=qc x i;have hg2:=qc y i;Sp (i<(limbs x).length) (λh4=>I (?_:i<(limbs x).length)<|Sp (i<(limbs y).length) (λh5=>I6 (?_:i<(limbs y).length) (w7 (by first|omega|exact Nat.lt_succ_of_le (zK _ _)) (by omega):qU .sub .u64 (((limbs x).getD i 0:Nat):Int) ((c+((limbs y).getD i 0):Nat):Int) ((dif ((limbs x).getD i 0) (c+((limbs y).getD i 0)):Nat):Int)) (zK _ _:dif ((limbs x).getD i 0) (c+((limbs y).getD i 0))<=18446744073709551615) (?_:i<(limbs x).length) (?_:i<out.length) (qy:Bnd q97 q8C (i+1)) (q6K (hI.step (by omega) (by first|rfl|rw[qS (l:=limbs y) (by omega),q64]):SubI x y (i+1) ((dif ((limbs x).getD i 0) (c+((limbs y).getD i 0)))/2^63) (out.set i ((dif ((limbs x).getD i 0) (c+((limbs y).getD i 0)))%4294967296))) (?_:(limbs x).length-(i+1)<(limbs x).length-i))) λh6=>I5 (w7 (by first|omega|exact Nat.lt_succ_of_le (zK _ _)) (by omega):qU .sub .u64 (((limbs x).getD i 0:Nat):Int) (c:Int) ((dif ((limbs x).getD i 0) c:Nat):Int)) (zK _ _:dif ((limbs x).getD i 0) c<=18446744073709551615) (?_:i<(limbs x).length) (?_:i<out.length) (qy:Bnd q97 q8C (i+1)) (q6K (hI.step (by omega) (by first|rfl|rw[qS (l:=limbs y) (by omega),q64]):SubI x y (i+1) ((dif ((limbs x).getD i 0) c)/2^63) (out.set i ((dif ((limbs x).getD i 0) c)%4294967296))) (?_:(limbs x).length-(i+1)<(limbs x).length-i))) λh7=>I (?_:(limbs x).length=out.length) (have hF:=hI.fin' (by omega) hp0;I (hF.2: ∀u∈out,u<4294967296) (q6K (hF.1:qa out=x-y) ((if_neg (by omega)).symm:0=subC x y))))⟩<;>omega)
theorem Y3:FI.OK ⟨197,[.mag,q98],[q8m,q8J],λz=>(λ(x:Nat)(u:Nat)=>[0<u]) z.1 z.2,λb z=>(λ(x:Nat)(u:Nat)=> .tup [.one (.dt .mag (b0 b) (x/u)),.one (.dt q98 (b1 b) (x%u))]) z.1 z.2⟩ Pg:=mF Tryz.func197 [] (λ(x:Nat)(u:Nat) b hx hp=>q9 (q8 ((Bnds.h2 hx).1.magLe (q65 _ _)) rfl) (q9 (q8 ((Bnds.h2 hx).2.natLe (q6b (q6k _ (hp _ (q5Q))))) rfl) qr)) (λ(x:Nat)(u:Nat) hx hp=>by
 have hx0:qM x 1099511627776:=hx.1;have hl0:(limbs x).length<=34359738369:=qq (q6b hx0);have hx1:u<=4294967295:=hx.2;have hp0:0<u:=hp _ (q5Q)
 refine⟨.h 1 2 (.mk (.arr q98 q8J))<|.loop [.s 8 q91 q8D,.s 7 q99 q8J,.a 11 q98 q8J] (λ((z,r,out):Int×Nat×List Nat)=>SmallZ x u z r out) (λ((z,r,out):Int×Nat×List Nat)=>(z+1).toNat) λ((z,r,out):Int×Nat×List Nat)=> .cond (.h 6 4 (.ix z.toNat)<|.h 6 7 (.i (.n ((r*2^32)+((limbs x).getD z.toNat 0)) 18446744073709551615))<|.h 7 7 (.ix z.toNat) .nil)<|.pre 9 (.frz 11 true [6,7])<|.h 9 1 (.cI BZ) .nil,kX (I2 (?_:(limbs x).length=(limbs x).length) (SmallZ.start hp0:SmallZ x u ((((limbs x).length:Nat):Int) -1) 0 (List.replicate ((limbs x).length) (0:Nat))) λ(z:Int)(r:Nat)(out:List Nat)(hb1:HB [.s 8 q91 q8D,.s 7 q99 q8J,.a 11 q98 q8J] (z,r,out))(hI:SmallZ x u z r out)=>have hv4:=(show Int.natAbs z<=34359738370 from hb1.1);have hv5:=(show r<=4294967295 from hb1.2.1);have hv6:=(show∀u∈out,u<=4294967295 from hb1.2.2);have hB:=hI.b;Sp (0<=z) (λh2=>I6 (?_:z=((z.toNat:Nat):Int)) (?_:z.toNat<(limbs x).length) (CY _ 32 rfl (qc _ _) (by have:=qc x z.toNat;omega):qU .or .u64 ((r*2^32:Nat):Int) (((limbs x).getD z.toNat 0:Nat):Int) (((r*2^32)+((limbs x).getD z.toNat 0):Nat):Int)) (by have:=qc x z.toNat;omega:(r*2^32)+((limbs x).getD z.toNat 0)<=18446744073709551615) (?_:0<u) (?_:z=((z.toNat:Nat):Int))<|I4 (?_:z.toNat<(limbs x).length) (?_:z.toNat<out.length) (?_:0<u) (iBd:Bnd q91 q8D (z-1)) (q6K (hI.step (by omega) rfl:SmallZ x u (z-1) (((r*2^32)+((limbs x).getD z.toNat 0))%u) (out.set z.toNat ((((r*2^32)+((limbs x).getD z.toNat 0))/u)%4294967296))) (?_:((z-1)+1).toNat<(z+1).toNat))) λh3=>I (?_:(limbs x).length=out.length) (have hF:=hI.fin (by omega);I (hF.2.2: ∀u∈out,u<4294967296) (q6K (hF.1:qa out=x/u) (hF.2.1:r=x%u))))⟩<;>omega)
theorem Xm:FI.OK ⟨190,[.mag],[q8m],λz=>(λ(x:Nat)=>[(limbs x).length<=2]) z,λb z=>(λ(x:Nat)=>oO q99 q8h x) z⟩ Pg:=mF Tryz.func190 [] (λ(x:Nat) b hx hp=>q8 (q6c (M9 (hp _ (q5Q)))) rfl) (λ(x:Nat) hx hp=>by
 have hx0:qM x 1099511627776:=hx;have hl0:(limbs x).length<=34359738369:=qq (q6b hx0);have hp0:(limbs x).length<=2:=hp _ (q5Q)
 refine⟨.loop [.s 4 q91 q8F,.s 3 q99 q8h] (λ((z,v):Int×Nat)=>WordZ x z v) (λ((z,v):Int×Nat)=>(z+1).toNat) λ((z,v):Int×Nat)=> .cond (.h 5 1 (.i (.n (v*2^32) 18446744073709551615))<|.h 5 4 (.ix z.toNat)<|.h 5 7 (.i (.n ((v*2^32)+((limbs x).getD z.toNat 0)) 18446744073709551615)) .nil) .nil,kX (I (WordZ.start x:WordZ x ((((limbs x).length:Nat):Int) -1) 0) λ(z:Int)(v:Nat)(hb1:HB [.s 4 q91 q8F,.s 3 q99 q8h] (z,v))(hI:WordZ x z v)=>have hv4:=(show Int.natAbs z<=68719476736 from hb1.1);have hv5:=(show v<=18446744073709551615 from hb1.2);have hB0:=hI.h0;have hB1:=hI.h1;Sp (0<=z) (λh2=>have hw:=hI.lt hp0 (by omega);I6 (Hw v 32 (by omega) (by omega):qU .shl .u64 (v:Int) 32 ((v*2^32:Nat):Int)) (?_:v*2^32<=18446744073709551615) (?_:z=((z.toNat:Nat):Int)) (?_:z.toNat<(limbs x).length) (CY _ 32 rfl (qc _ _) (by have:=qc x z.toNat;omega):qU .or .u64 ((v*2^32:Nat):Int) (((limbs x).getD z.toNat 0:Nat):Int) (((v*2^32)+((limbs x).getD z.toNat 0):Nat):Int)) (by have:=qc x z.toNat;omega:(v*2^32)+((limbs x).getD z.toNat 0)<=18446744073709551615)<|I (iBd:Bnd q91 q8F (z-1)) (q6K (hI.step (by omega):WordZ x (z-1) ((v*2^32)+((limbs x).getD z.toNat 0))) (?_:((z-1)+1).toNat<(z+1).toNat))) λh3=>(hI.fin (by omega):v=x))⟩<;>omega)
theorem O7:FI.OK ⟨137,[.mag],[q8m],λz=>(λ(x:Nat)=>[(limbs x).length<=2]) z,λb z=>(λ(x:Nat)=>oO q99 q8h x) z⟩ Pg:=mF Tryz.func137 [] (λ(x:Nat) b hx hp=>q8 (q6c (M9 (hp _ (q5Q)))) rfl) (λ(x:Nat) hx hp=>by
 have hx0:qM x 1099511627776:=hx;have hl0:(limbs x).length<=34359738369:=qq (q6b hx0);have hp0:(limbs x).length<=2:=hp _ (q5Q)
 refine⟨.loop [.s 4 q91 q8F,.s 3 q99 q8h] (λ((z,v):Int×Nat)=>WordZ x z v) (λ((z,v):Int×Nat)=>(z+1).toNat) λ((z,v):Int×Nat)=> .cond (.h 5 1 (.i (.n (v*2^32) 18446744073709551615))<|.h 5 4 (.ix z.toNat)<|.h 5 7 (.i (.n ((v*2^32)+((limbs x).getD z.toNat 0)) 18446744073709551615)) .nil) .nil,kX (I (WordZ.start x:WordZ x ((((limbs x).length:Nat):Int) -1) 0) λ(z:Int)(v:Nat)(hb1:HB [.s 4 q91 q8F,.s 3 q99 q8h] (z,v))(hI:WordZ x z v)=>have hv4:=(show Int.natAbs z<=68719476736 from hb1.1);have hv5:=(show v<=18446744073709551615 from hb1.2);have hB0:=hI.h0;have hB1:=hI.h1;Sp (0<=z) (λh2=>have hw:=hI.lt hp0 (by omega);I6 (Hw v 32 (by omega) (by omega):qU .shl .u64 (v:Int) 32 ((v*2^32:Nat):Int)) (?_:v*2^32<=18446744073709551615) (?_:z=((z.toNat:Nat):Int)) (?_:z.toNat<(limbs x).length) (CY _ 32 rfl (qc _ _) (by have:=qc x z.toNat;omega):qU .or .u64 ((v*2^32:Nat):Int) (((limbs x).getD z.toNat 0:Nat):Int) (((v*2^32)+((limbs x).getD z.toNat 0):Nat):Int)) (by have:=qc x z.toNat;omega:(v*2^32)+((limbs x).getD z.toNat 0)<=18446744073709551615)<|I (iBd:Bnd q91 q8F (z-1)) (q6K (hI.step (by omega):WordZ x (z-1) ((v*2^32)+((limbs x).getD z.toNat 0))) (?_:((z-1)+1).toNat<(z+1).toNat))) λh3=>(hI.fin (by omega):v=x))⟩<;>omega)
abbrev XE:FO:=⟨199,[.mag,q97],[q8m,q9o],λ_=>[],λk b z=>(λ(x:Nat)(s:Nat)=> .c (.one (.gs k ((limbs x).length+1) 1 ((b0 b).nb/32+2)))) z.1 z.2,λb z=>(λ(x:Nat)(s:Nat)=> .gro q98 q8J (padL (x*2^s) ((limbs x).length+1))) z.1 z.2⟩
theorem NZ:XE.OK Pg:=mkO hmix 41 12 Tryz.func199 rfl rfl (by decide) [] (λ_=>rfl) (λ_ _ _=>rfl) (λ_ _=>rfl) (λ_ _ _=>⟨rfl,rfl⟩) (λ(x:Nat)(s:Nat) k b hx hp=>⟨q8 (Nat.succ_le_succ (NM (Bnds.h2 hx).1)) rfl,Ml _ _⟩) (λ(x:Nat)(s:Nat) hx hp=>by
 have hx0:qM x 1099511627776:=hx.1;have hl0:(limbs x).length<=34359738369:=qq (q6b hx0);have hx1:s<=32:=hx.2
 refine bodyO.g (.h 1 3 (.mk (.gro q98 q8J))<|.loop [.s 15 q97 q8C,.s 6 q99 q8J,.bk 12 q98 q8J] (λ((i,c,out):Nat×Nat×List Nat)=>RaiseI x s i c out) (λ((i,c,out):Nat×Nat×List Nat)=>(limbs x).length-i) λ((i,c,out):Nat×Nat×List Nat)=> .cond (.h 6 4 (.i (.n (((limbs x).getD i 0)*2^s) 18446744073709551615))<|.h 6 5 (.i (.n (c+(((limbs x).getD i 0)*2^s)) 18446744073709551615)) .nil) .nil) (kX<|I2 (?_:((limbs x).length)+1=((limbs x).length)+1) (RaiseI.start x s:RaiseI x s 0 0 (List.replicate (((limbs x).length)+1) (0:Nat))) λ(i:Nat)(c:Nat)(out:List Nat)(hb1:HB [.s 15 q97 q8C,.s 6 q99 q8J,.bk 12 q98 q8J] (i,c,out))(hI:RaiseI x s i c out)=>have hv4:=(show i<=34359738369 from hb1.1);have hv5:=(show c<=4294967295 from hb1.2.1);have hv6:=(show∀u∈out,u<=4294967295 from hb1.2.2);have hIl:=hI.hl;have hIi:=hI.hi;have hIc:=hI.hc;have hg1:=qc x i;have hbd:=K8 hg1 hx1 hIc;Sp (i<(limbs x).length) (λh2=>I6 (?_:i<(limbs x).length) (Hw _ _ (by omega) (Dn (by omega) (by omega)):qU .shl .u64 (((limbs x).getD i 0:Nat):Int) (s:Int) ((((limbs x).getD i 0)*2^s:Nat):Int)) (q6c (Dn (by omega) (by omega)):((limbs x).getD i 0)*2^s<=18446744073709551615) (Hv _ _ rfl hIc hbd:qU .or .u64 (c:Int) ((((limbs x).getD i 0)*2^s:Nat):Int) ((c+(((limbs x).getD i 0)*2^s):Nat):Int)) (q6c hbd:c+(((limbs x).getD i 0)*2^s)<=18446744073709551615) (?_:i<((limbs x).length)+1)<|I2 (?_:i<out.length) (qy:Bnd q97 q8C (i+1)) (q6K (hI.step (by omega) rfl:RaiseI x s (i+1) ((c+(((limbs x).getD i 0)*2^s))/2^32) (out.set i ((c+(((limbs x).getD i 0)*2^s))%4294967296))) (?_:(limbs x).length-(i+1)<(limbs x).length-i))) λh3=>I2 (?_:(limbs x).length<((limbs x).length)+1) (?_:(limbs x).length<out.length) (q6K (hI.fin' (by omega) (by omega):out.set ((limbs x).length) c=padL (x*2^s) ((limbs x).length+1)) ((?_:((limbs x).length)+1=(limbs x).length+1))))<;>omega)
noncomputable abbrev raise_c:CtrO Pg:=FO.c NZ
abbrev XC(k:Nat)(b:List Bd)(x:Nat)(s:Nat):WV:= .c (.one (.gs k ((limbs x).length+1) 1 ((b0 b).nb/32+2)))
abbrev XB(b:List Bd)(x:Nat)(s:Nat):WB:= .gro q98 q8J (padL (x*2^s) ((limbs x).length+1))
theorem RI(d:Nat)(x:Nat)(s:Nat)(hx:Bnds [.mag,q97] [q8m,q9o] (x,s))(hp: ∀c0∈([]:List Prop),c0):vQ Pg 199 (argsE [.mag,q97] (x,s)) [] (XC d [q8m,q9o] x s).exp [(d,some (XB [q8m,q9o] x s).exp)]:=NZ.sig d (x,s) hx hp
abbrev Mp(b:List Bd)(x s:Nat):WV:=oO q8z (.s ((b0 b).nb/32+2) q8J) (padL (x*2^s) ((limbs x).length+1))
theorem RH(b:List Bd)(x s:Nat)(hx:Bnds [.mag,.nat .i64] b (x,s))(hp: ∀p∈([]:List Prop),p):(Mp b x s).ok:=q8 ⟨by rw[BE];exact Nat.succ_le_succ (NM (Bnds.h2 hx).1),Ml _ _⟩ rfl
def Ts:Ctr Pg:=⟨199,[.mag,.nat .i64],[.n 1099511627776,.n 32],λz=>[],λb z=>Mp b z.1 z.2,λz hx hp=>frzO (RI 0 z.1 z.2 hx hp) (by decide) (BE _ _).symm _,λ_ _=>rfl,λb z hx hp=>RH b z.1 z.2 hx hp⟩
theorem of_k:FI.OK ⟨191,[q99],[q8h],λ_=>[],λb z=>(λ(x:Nat)=>oO .mag (.n (Nat.log2 (b0 b).nb+1)) (x)) z⟩ Pg:=mF Tryz.func191 [] (λ(x:Nat) b hx hp=>q8 (q6f (Bnds.h1 hx).nat Nat.lt_log2_self) rfl) (λ(x:Nat) hx hp=>by
 have hx0:x<=18446744073709551615:=hx
 refine⟨.h 1 5 (.mk (.im q98 q8J))<|.h 1 6 (.cI BZ) .nil,kX (I (by intro u hu;simp only[q5O,q5W,or_false]at hu;omega: ∀u∈[x%4294967296,x/2^32],u<4294967296) ((by simp only[qa];omega:qa [x%4294967296,x/2^32]=x)))⟩)
theorem Ta:FI.OK ⟨125,[q8z],[q86],λz=>(λ(ls:List Nat)=>[ls.length=0\/ls.getD (ls.length-1) 0≠0]) z,λb z=> .c (.one (.vl (.bool true)))⟩ Pg:=mF Tryz.func125 [] (λ(ls:List Nat) b hx hp=>Be rfl) (λ(ls:List Nat) hx hp=>by
 have hl0:ls.length<=1099511627776:=hx.1;have hp0:ls.length=0\/ls.getD (ls.length-1) 0≠0:=hp _ (q5Q)
 refine⟨.cond .nil<|.h 1 7 (.i .sub) .nil,kX (Sp (ls.length=0) (λh1=>trivial) λh2=>I2 (?_:1<=ls.length) (?_:ls.length-1<ls.length) ((?_:ls.getD (ls.length-1) 0≠0)))⟩<;>omega)
def tab8:ByteArray:=⟨#[0,1,2,2,3,3,3,3,4,4,4,4,4,4,4,4,5,5,5,5,5,5,5,5,5,5,5,5,5,5,5,5,6,6,6,6,6,6,6,6,6,6,6,6,6,6,6,6,6,6,6,6,6,6,6,6,6,6,6,6,6,6,6,6,7,7,7,7,7,7,7,7,7,7,7,7,7,7,7,7,7,7,7,7,7,7,7,7,7,7,7,7,7,7,7,7,7,7,7,7,7,7,7,7,7,7,7,7,7,7,7,7,7,7,7,7,7,7,7,7,7,7,7,7,7,7,7,7,8,8,8,8,8,8,8,8,8,8,8,8,8,8,8,8,8,8,8,8,8,8,8,8,8,8,8,8,8,8,8,8,8,8,8,8,8,8,8,8,8,8,8,8,8,8,8,8,8,8,8,8,8,8,8,8,8,8,8,8,8,8,8,8,8,8,8,8,8,8,8,8,8,8,8,8,8,8,8,8,8,8,8,8,8,8,8,8,8,8,8,8,8,8,8,8,8,8,8,8,8,8,8,8,8,8,8,8,8,8,8,8,8,8,8,8,8,8,8,8,8,8,8,8,8,8,8,8]⟩
abbrev Wk:FO:=⟨92,[q8z],[q86],λ_=>[],λk b z=>(λ(ls:List Nat)=> .c (.one (.gs k (ls.length) 1 ((b0 b).len)))) z,λb z=>(λ(ls:List Nat)=> .gro q98 ((b0 b).e) (ls)) z⟩
theorem Wl:Wk.OK Pg:=mkO hmix 8 7 Tryz.func92 rfl rfl (by decide) [] (λ_=>rfl) (λ_ _ _=>rfl) (λ_ _=>rfl) (λ_ _ _=>⟨rfl,rfl⟩) (λ(ls:List Nat) k b hx hp=>⟨q8 (Bnds.h1 hx).sl.1 rfl,(Bnds.h1 hx).sl.2⟩) (λ(ls:List Nat) hx hp=>by
 have hl0:ls.length<=1099511627776:=hx.1
 refine bodyO.g (.cond .nil<|.h 3 0 (.mk (.gro q98 q8J)) .nil) (kX (q6K (λ(h1:ls=[])=>q6K (h1.symm:([]:List Nat)=ls) ((by rw[h1];rfl:0=ls.length)))<|I (rfl:0=([]:List Nat).length) (q6K (rfl:([]:List Nat)++ls=ls) ((?_:0+ls.length=ls.length)))))<;>omega)
abbrev Wj(k:Nat)(b:List Bd)(ls:List Nat):WV:= .c (.one (.gs k (ls.length) 1 ((b0 b).len)))
abbrev Wi(b:List Bd)(ls:List Nat):WB:= .gro q98 ((b0 b).e) (ls)
theorem Qf(d:Nat)(ls:List Nat)(hx:Bnds [q8z] [q86] ls)(hp: ∀c0∈([]:List Prop),c0):vQ Pg 92 (argsE [q8z] ls) [] (Wj d [q86] ls).exp [(d,some (Wi [q86] ls).exp)]:=Wl.sig d ls hx hp
def Cy:Ctr Pg:=⟨92,[.sl q98],[.s 1099511627776 q8J],λz=>[],λb z=>oO q8z (b0 b) z,λz hx hp=>frzO (Qf 0 z hx hp) (by decide) rfl _,λ_ _=>rfl,λb z hx hp=>q8 (Bnds.h1 hx) rfl⟩
theorem OI(x:Nat)(hx:Bnds [.mag] [.n 1099511627776] x):Sig Pg 92 (argsE [.mag] x) (WV.c (.one (.dt .mag q8m x))).exp:=by
 have h:=Cy.sig (limbs x) ⟨q6e (qq (q6b hx)) (by decide),(Bnd.limbs hx).2⟩ (by intro p hp;cases hp);have e:(Cy.res Cy.bs (limbs x)).exp=(WV.c (.one (.dt .mag q8m x))).exp:=magE x _ _;rw[e]at h;rw[F0];exact h
def Eh:Ctr Pg:=⟨92,[.mag],[.n 1099511627776],λz=>[],λb z=>oO .mag (b0 b) z,λz hx hp=>OI z hx,λ_ _=>rfl,λb z hx hp=>q8 (Bnds.h1 hx) rfl⟩
abbrev Y7:FV:=⟨142,true,q98,q8J,1099511627776,[],[],λl lo n cap z=>[n=l.length],λk b l lo n cap z=> .c (.one (.gs k (limbs (qa l)).length 1 1099511627776)),λl lo n cap z=>l⟩
theorem Y8:Y7.OK Pg:=mkSl hmix 21 Tryz.func142 rfl rfl (by decide) [] (λ_=>rfl) (λ_ _ _ _ _=>rfl) (λ_ _ _ _ _ _ _=>rfl) (λ_ _ _ _ _ _=>rfl) (λ(l:List Nat)(lo n cap:Nat)  k b hx hs hn(hm:n<=1099511627776) hp=>⟨q8 (q6e (Ji (JD hs)) (by have:=hp _ (q5Q);omega)) rfl,hs⟩) (λ(l:List Nat)(lo n cap:Nat)  hs hx hn(hm:n<=1099511627776) hp=>by
 have hp0:n=l.length:=hp _ (q5Q);have hU:=JD hs
 refine⟨.loop [.s 3 q97 q8m] (λ(k:Nat)=>k<=l.length/\qa (l.take k)=qa l) (λ(k:Nat)=>k) λ(k:Nat)=> .cond (.h 2 5 (.i .sub)<|.cond (.h 3 1 (.i .sub) .nil) .nil) .nil,kX (I (⟨by omega,by rw[hp0,q5Y]⟩:n<=l.length/\qa (l.take n)=qa l) λ(k:Nat)(hb1:HB [.s 3 q97 q8m] k)(hC:k<=l.length/\qa (l.take k)=qa l)=>have hv6:=(show k<=1099511627776 from hb1);have hk:=hC.1;Sp (0<k) (λh2=>I3 (?_:1<=k) (?_:k-1<n) (?_:k-1<l.length)<|Sp (l.getD (k-1) 0=0) (λh3=>I (?_:1<=k) (q6K (⟨by omega,Fv hC.1 (by omega) hC.2 (by omega)⟩:k-1<=l.length/\qa (l.take (k-1))=qa l) (?_:k-1<k))) λh4=>I2 (?_:k<=n) (?_:n<=l.length) (q6K (q6J l) ((by rw[<-Ai hU hC.1 hC.2 (by omega),q5L,q6i hC.1]:k=(limbs (qa l)).length)))) λh5=>I2 (?_:k<=n) (?_:n<=l.length) (q6K (q6J l) ((by rw[<-Ai hU hC.1 hC.2 (by omega),q5L,q6i hC.1]:k=(limbs (qa l)).length))))⟩<;>omega)
noncomputable abbrev trimS_c:CtrS Pg:=FV.c Y8
theorem bl_8{x:Nat}(h:x<256):bl x<=8:=by
 have h1:=Hy x;rcases q69 x with e|e
 .subst e;decide
 .have h2:=FH (n:=x) (by omega)
  apply q6c;apply Nat.lt_of_not_le;intro h3;have:=q6v (show 0<2 by omega) (show 8<=bl x-1 by omega);omega
theorem NL:FI.OK ⟨189,[q98],[q8J],λ_=>[],λb z=>(λ(x:Nat)=>oO q97 (.n (Nat.log2 (b0 b).nb+1)) (bl x)) z⟩ Pg:=mF Tryz.func189 [] (λ(x:Nat) b hx hp=>q8 (Yn (Bnds.h1 hx).nat) rfl) (λ(x:Nat) hx hp=>by
 have hx0:x<=4294967295:=hx;have h1:65536<=x->bl x=bl (x/2^16)+16:=λh=>Cv (k:=16) h
 have h2:256<=x/2^16->bl (x/2^16)=bl (x/2^16/2^8)+8:=λh=>Cv (k:=8) h
 have h3:256<=x->bl x=bl (x/2^8)+8:=λh=>Cv (k:=8) h
 refine⟨.cond (.cond (.h 7 2 (.i (.n (((x/2^16)/2^8)%256) 255))<|.h 7 3 (.any [.c (.one (.vl (.string tab8))),oO q9d q9k (((x/2^16)/2^8)%256)] (oO q9d q9v (bl (((x/2^16)/2^8)%256))) (q8 (bl_8 (q6k _ (by decide))) rfl) (Op.index 9 (.const (.string tab8)) (.tmp 15)) λ_=>FY (j:=(((x/2^16)/2^8)%256)) (by kernel_rfl) rfl (q6k _ (by decide)) (by kernel_rfl)) .nil)<|.h 7 2 (.i (.n ((x/2^16)%256) 255))<|.h 7 3 (.any [.c (.one (.vl (.string tab8))),oO q9d q9k ((x/2^16)%256)] (oO q9d q9v (bl ((x/2^16)%256))) (q8 (bl_8 (q6k _ (by decide))) rfl) (Op.index 9 (.const (.string tab8)) (.tmp 15)) λ_=>FY (j:=((x/2^16)%256)) (by kernel_rfl) rfl (q6k _ (by decide)) (by kernel_rfl)) .nil)<|.cond (.h 7 2 (.i (.n ((x/2^8)%256) 255))<|.h 7 3 (.any [.c (.one (.vl (.string tab8))),oO q9d q9k ((x/2^8)%256)] (oO q9d q9v (bl ((x/2^8)%256))) (q8 (bl_8 (q6k _ (by decide))) rfl) (Op.index 9 (.const (.string tab8)) (.tmp 15)) λ_=>FY (j:=((x/2^8)%256)) (by kernel_rfl) rfl (q6k _ (by decide)) (by kernel_rfl)) .nil)<|.h 7 2 (.i (.n (x%256) 255))<|.h 7 3 (.any [.c (.one (.vl (.string tab8))),oO q9d q9k (x%256)] (oO q9d q9v (bl (x%256))) (q8 (bl_8 (q6k _ (by decide))) rfl) (Op.index 9 (.const (.string tab8)) (.tmp 15)) λ_=>FY (j:=(x%256)) (by kernel_rfl) rfl (q6k _ (by decide)) (by kernel_rfl)) .nil,kX (Sp (65536<=x) (λh1=>Sp (256<=x/2^16) (λh2=>I4 (Ia _:IntKind.wrap .u8 (((x/2^16)/2^8:Nat):Int)=((((x/2^16)/2^8)%256:Nat):Int)) (?_:((x/2^16)/2^8)%256<=255) (rfl:([.c (.one (.vl (.string tab8))),oO q9d q9k (((x/2^16)/2^8)%256)]:List WV)=[.c (.one (.vl (.string tab8))),oO q9d q9k (((x/2^16)/2^8)%256)]) (rfl:(Op.index 9 (.const (.string tab8)) (.tmp 15):Op)=Op.index 9 (.const (.string tab8)) (.tmp 15)) ((by rw[q6j (show((x/2^16)/2^8)<256 by omega)];omega:24+(bl (((x/2^16)/2^8)%256))=bl x))) λh3=>I4 (Ia _:IntKind.wrap .u8 ((x/2^16:Nat):Int)=(((x/2^16)%256:Nat):Int)) (?_:(x/2^16)%256<=255) (rfl:([.c (.one (.vl (.string tab8))),oO q9d q9k ((x/2^16)%256)]:List WV)=[.c (.one (.vl (.string tab8))),oO q9d q9k ((x/2^16)%256)]) (rfl:(Op.index 9 (.const (.string tab8)) (.tmp 15):Op)=Op.index 9 (.const (.string tab8)) (.tmp 15)) ((by rw[q6j (show(x/2^16)<256 by omega)];omega:16+(bl ((x/2^16)%256))=bl x))) λh4=>Sp (256<=x) (λh5=>I4 (Ia _:IntKind.wrap .u8 ((x/2^8:Nat):Int)=(((x/2^8)%256:Nat):Int)) (?_:(x/2^8)%256<=255) (rfl:([.c (.one (.vl (.string tab8))),oO q9d q9k ((x/2^8)%256)]:List WV)=[.c (.one (.vl (.string tab8))),oO q9d q9k ((x/2^8)%256)]) (rfl:(Op.index 9 (.const (.string tab8)) (.tmp 15):Op)=Op.index 9 (.const (.string tab8)) (.tmp 15)) ((by rw[q6j (show(x/2^8)<256 by omega)];omega:8+(bl ((x/2^8)%256))=bl x))) λh6=>I4 (Ia _:IntKind.wrap .u8 (x:Int)=((x%256:Nat):Int)) (?_:x%256<=255) (rfl:([.c (.one (.vl (.string tab8))),oO q9d q9k (x%256)]:List WV)=[.c (.one (.vl (.string tab8))),oO q9d q9k (x%256)]) (rfl:(Op.index 9 (.const (.string tab8)) (.tmp 15):Op)=Op.index 9 (.const (.string tab8)) (.tmp 15)) ((by rw[q6j (show x<256 by omega)];omega:0+(bl (x%256))=bl x)))⟩<;>omega)
theorem q21:FI.OK ⟨198,[q98],[q8J],λ_=>[],λb z=>(λ(x:Nat)=>oO q97 q9o (32-bl x)) z⟩ Pg:=mF Tryz.func198 [(189,.cI NL)] (λ(x:Nat) b hx hp=>q8 (Nat.sub_le _ _) rfl) (λ(x:Nat) hx hp=>by
 have hx0:x<=4294967295:=hx;have hb:= @OF x
 refine⟨.h 1 2 (.i .sub) .nil,kX (I (?_:bl x<=32) ((?_:32-(bl x)=32-bl x)))⟩<;>omega)
theorem Hx:FI.OK ⟨126,[.mag],[q8m],λ_=>[],λb z=>(λ(x:Nat)=>oO q97 (b0 b) (bl x)) z⟩ Pg:=mF Tryz.func126 [(142,.c Co),(189,.cI NL)] (λ(x:Nat) b hx hp=>q8 (PU (Bnds.h1 hx)) rfl) (λ(x:Nat) hx hp=>by
 have hx0:qM x 1099511627776:=hx;have hl0:(limbs x).length<=34359738369:=qq (q6b hx0)
 refine⟨.cond .nil<|.h 4 2 (.i .sub)<|.h 4 7 (.i .sub) .nil,kX (Sp ((limbs x).length=0) (λh1=>(by have:=(nl0 (x:=x)).1 (by omega);subst this;rfl:0=bl x)) λh2=>have hpos:=(show 0<(limbs x).length by omega);have hBB:=IV hpos;Id2 (?_:1<=(limbs x).length)<|I (?_:((limbs x).length) -1<(limbs x).length) ((?_:(32*(((limbs x).length) -1))+(bl ((limbs x).getD (((limbs x).length) -1) 0))=bl x)))⟩<;>omega)
theorem Ug:FI.OK ⟨140,[.mag,.mag],[q8m,q8m],λz=>(λ(x:Nat)(y:Nat)=>[0<y]) z.1 z.2,λb z=>(λ(x:Nat)(y:Nat)=> .tup [.one (.dt .mag (b0 b) (x/y)),.one (.dt .mag (b1 b) (x%y)),.one (.kn .i64 0)]) z.1 z.2⟩ Pg:=mF Tryz.func140 [(92,.c Eh),(142,.cI BZ),(148,.cI OJ),(197,.cI Y3),(198,.cI q21),(199,.c Ts)] (λ(x:Nat)(y:Nat) b hx hp=>q9 (q8 ((Bnds.h2 hx).1.magLe (q65 _ _)) rfl) (q9 (q8 ((Bnds.h2 hx).2.magLe (q6b (q6k _ (hp _ (q5Q))))) rfl) (q9 B7 qr))) (λ(x:Nat)(y:Nat) hx hp=>by
 have hx0:qM x 1099511627776:=hx.1;have hl0:(limbs x).length<=34359738369:=qq (q6b hx0);have hx1:qM y 1099511627776:=hx.2;have hl1:(limbs y).length<=34359738369:=qq (q6b hx1);have hp0:0<y:=hp _ (q5Q);have hyp:=mt (nl0 (x:=y)).1 (show¬y=0 by omega)
 refine⟨.h 1 1 (.c Co)<|.h 1 3 (.c Co)<|.cond (.dead)<|.cond .nil<|.cond (.h 8 2 (.mk (.im q98 q8J)) .nil)<|.h 9 3 (.i .sub) ((λ(s:Nat)=> .h 10 2 (.o raise_c)<|.h 10 6 (.mag (y*2^s) 1099511627808) ((λ(m:Nat)=> .h 12 3 (.i .sub)<|.h 12 4 (.mk (.arr q98 q8J))<|.loop [.s 13 q91 q8m,.bk 66 q98 q8J,.a 77 q98 q8J] (λ((z,out,ql):Int×List Nat×List Nat)=>DivZ x y s z out ql) (λ((z,out,ql):Int×List Nat×List Nat)=>(z+1).toNat) λ((z,out,ql):Int×List Nat×List Nat)=> .cond ((λ(j:Nat)=> .h 16 4 (.ix (j+m))<|.h 16 13 (.ix (j+m-1))<|.h 16 16 (.i (.n (((out.getD (j+m) 0)*2^32)+(out.getD (j+m-1) 0)) 18446744073709551615)) ((λ(t:Nat)=> .h 17 3 (.i .sub)<|.h 17 11 (.i .sub)<|.loop [.s 15 q99 (.n 4294967297),.s 16 q99 q8J] (λ((q,r):Nat×Nat)=>Est x y s j out q r) (λ((q,r):Nat×Nat)=>q) λ((q,r):Nat×Nat)=> .cond (.h 19 1 (.i .sub)<|.h 20 3 (.i .sub)<|.cond (.loop [.s 156 q97 q8p,.s 17 q99 q9q,.s 18 q99 q8J,.bk 66 q98 q8J] (λ((i2,b,k,ls2):Nat×Nat×Nat×List Nat)=>MsI y s j (q-1) out i2 k b ls2) (λ((i2,b,k,ls2):Nat×Nat×Nat×List Nat)=>(limbs (y*2^s)).length-i2) λ((i2,b,k,ls2):Nat×Nat×Nat×List Nat)=> .cond (.h 26 5 (.i (.n (k+((q-1)*((limbs (y*2^s)).getD i2 0))) 18446744073709551615))<|.h 27 4 (.ix (i2+j))<|.h 27 8 (.i (.n ((k+((q-1)*((limbs (y*2^s)).getD i2 0)))%4294967296) 4294967295))<|.h 27 9 (.i (.n (dif (ls2.getD (i2+j) 0) ((k+((q-1)*((limbs (y*2^s)).getD i2 0)))%4294967296)) 18446744073709551615))<|.h 27 11 (.i (.n (dif (dif (ls2.getD (i2+j) 0) ((k+((q-1)*((limbs (y*2^s)).getD i2 0)))%4294967296)) b) 18446744073709551615))<|.h 28 6 (.ix (i2+j)) .nil)<|.h 32 4 (.ix (j+m))<|.h 32 8 (.i (.n (dif (ls2.getD (j+m) 0) k) 18446744073709551615))<|.h 32 10 (.i (.n (dif (dif (ls2.getD (j+m) 0) k) b) 18446744073709551615)) ((λ(d:Nat)=> .h 33 6 (.ix (j+m))<|.cond (.h 35 1 (.i .sub)<|.loop [.s 216 q97 q8p,.s 18 q99 q9q,.bk 66 q98 q8J] (λ((i3,c3,ls3):Nat×Nat×List Nat)=>AbI y s j (ls2.set (j+m) (d%4294967296)) i3 c3 ls3) (λ((i3,c3,ls3):Nat×Nat×List Nat)=>(limbs (y*2^s)).length-i3) λ((i3,c3,ls3):Nat×Nat×List Nat)=> .cond (.h 40 5 (.ix (i3+j))<|.h 41 6 (.ix (i3+j)) .nil)<|.h 44 4 (.ix (j+m))<|.h 44 8 (.i (.n (((ls3.getD (j+m) 0)+c3)%4294967296) 4294967295))<|.h 44 9 (.ix (j+m))<|.h 45 4 (.ix j) .nil)<|.h 45 4 (.ix j) .nil) (dif (dif (ls2.getD (j+m) 0) k) b))) .nil)<|.h 18 6 (.i .sub)<|.h 18 18 (.ix (j+m-2))<|.h 18 21 (.i (.n ((r*2^32)+(out.getD (j+m-2) 0)) 18446744073709551615))<|.cond (.h 19 1 (.i .sub)<|.h 20 3 (.i .sub)<|.cond (.loop [.s 156 q97 q8p,.s 17 q99 q9q,.s 18 q99 q8J,.bk 66 q98 q8J] (λ((i2,b,k,ls2):Nat×Nat×Nat×List Nat)=>MsI y s j (q-1) out i2 k b ls2) (λ((i2,b,k,ls2):Nat×Nat×Nat×List Nat)=>(limbs (y*2^s)).length-i2) λ((i2,b,k,ls2):Nat×Nat×Nat×List Nat)=> .cond (.h 26 5 (.i (.n (k+((q-1)*((limbs (y*2^s)).getD i2 0))) 18446744073709551615))<|.h 27 4 (.ix (i2+j))<|.h 27 8 (.i (.n ((k+((q-1)*((limbs (y*2^s)).getD i2 0)))%4294967296) 4294967295))<|.h 27 9 (.i (.n (dif (ls2.getD (i2+j) 0) ((k+((q-1)*((limbs (y*2^s)).getD i2 0)))%4294967296)) 18446744073709551615))<|.h 27 11 (.i (.n (dif (dif (ls2.getD (i2+j) 0) ((k+((q-1)*((limbs (y*2^s)).getD i2 0)))%4294967296)) b) 18446744073709551615))<|.h 28 6 (.ix (i2+j)) .nil)<|.h 32 4 (.ix (j+m))<|.h 32 8 (.i (.n (dif (ls2.getD (j+m) 0) k) 18446744073709551615))<|.h 32 10 (.i (.n (dif (dif (ls2.getD (j+m) 0) k) b) 18446744073709551615)) ((λ(d:Nat)=> .h 33 6 (.ix (j+m))<|.cond (.h 35 1 (.i .sub)<|.loop [.s 216 q97 q8p,.s 18 q99 q9q,.bk 66 q98 q8J] (λ((i3,c3,ls3):Nat×Nat×List Nat)=>AbI y s j (ls2.set (j+m) (d%4294967296)) i3 c3 ls3) (λ((i3,c3,ls3):Nat×Nat×List Nat)=>(limbs (y*2^s)).length-i3) λ((i3,c3,ls3):Nat×Nat×List Nat)=> .cond (.h 40 5 (.ix (i3+j))<|.h 41 6 (.ix (i3+j)) .nil)<|.h 44 4 (.ix (j+m))<|.h 44 8 (.i (.n (((ls3.getD (j+m) 0)+c3)%4294967296) 4294967295))<|.h 44 9 (.ix (j+m))<|.h 45 4 (.ix j) .nil)<|.h 45 4 (.ix j) .nil) (dif (dif (ls2.getD (j+m) 0) k) b))) .nil)<|.loop [.s 156 q97 q8p,.s 17 q99 q9q,.s 18 q99 q8J,.bk 66 q98 q8J] (λ((i2,b,k,ls2):Nat×Nat×Nat×List Nat)=>MsI y s j q out i2 k b ls2) (λ((i2,b,k,ls2):Nat×Nat×Nat×List Nat)=>(limbs (y*2^s)).length-i2) λ((i2,b,k,ls2):Nat×Nat×Nat×List Nat)=> .cond (.h 26 5 (.i (.n (k+(q*((limbs (y*2^s)).getD i2 0))) 18446744073709551615))<|.h 27 4 (.ix (i2+j))<|.h 27 8 (.i (.n ((k+(q*((limbs (y*2^s)).getD i2 0)))%4294967296) 4294967295))<|.h 27 9 (.i (.n (dif (ls2.getD (i2+j) 0) ((k+(q*((limbs (y*2^s)).getD i2 0)))%4294967296)) 18446744073709551615))<|.h 27 11 (.i (.n (dif (dif (ls2.getD (i2+j) 0) ((k+(q*((limbs (y*2^s)).getD i2 0)))%4294967296)) b) 18446744073709551615))<|.h 28 6 (.ix (i2+j)) .nil)<|.h 32 4 (.ix (j+m))<|.h 32 8 (.i (.n (dif (ls2.getD (j+m) 0) k) 18446744073709551615))<|.h 32 10 (.i (.n (dif (dif (ls2.getD (j+m) 0) k) b) 18446744073709551615)) ((λ(d:Nat)=> .h 33 6 (.ix (j+m))<|.cond (.h 35 1 (.i .sub)<|.loop [.s 216 q97 q8p,.s 18 q99 q9q,.bk 66 q98 q8J] (λ((i3,c3,ls3):Nat×Nat×List Nat)=>AbI y s j (ls2.set (j+m) (d%4294967296)) i3 c3 ls3) (λ((i3,c3,ls3):Nat×Nat×List Nat)=>(limbs (y*2^s)).length-i3) λ((i3,c3,ls3):Nat×Nat×List Nat)=> .cond (.h 40 5 (.ix (i3+j))<|.h 41 6 (.ix (i3+j)) .nil)<|.h 44 4 (.ix (j+m))<|.h 44 8 (.i (.n (((ls3.getD (j+m) 0)+c3)%4294967296) 4294967295))<|.h 44 9 (.ix (j+m))<|.h 45 4 (.ix j) .nil)<|.h 45 4 (.ix j) .nil) (dif (dif (ls2.getD (j+m) 0) k) b))) (((out.getD (j+m) 0)*2^32)+(out.getD (j+m-1) 0)))) z.toNat)<|.h 46 1 (.s trimS_c)<|.loop [.s 262 q97 q8m,.bk 66 q98 q8J] (λ((i4,ls4):Nat×List Nat)=>DownI (qa out) s ((limbs x).length+1) i4 ls4) (λ((i4,ls4):Nat×List Nat)=>(limbs (qa out)).length-i4) λ((i4,ls4):Nat×List Nat)=> .cond (.h 50 5 (.i (.n ((ls4.getD i4 0)/2^s) 4294967295))<|.cond (.cond (.h 52 10 (.i .sub)<|.h 52 11 (.i (.n (((ls4.set i4 ((ls4.getD i4 0)/2^s)).getD (i4+1) 0)*2^(32-s)%4294967296) 4294967295))<|.h 52 12 (.i (.n (((ls4.set i4 ((ls4.getD i4 0)/2^s)).getD i4 0)+(((ls4.set i4 ((ls4.getD i4 0)/2^s)).getD (i4+1) 0)*2^(32-s)%4294967296)) 4294967295)) .nil) .nil) .nil)<|.pre 54 (.frz 77 true [4,5,66])<|.pre 54 (.frz 66 false [4,5]) .nil) ((limbs (y*2^s)).length))) (32-bl ((limbs y).getD (((limbs y).length) -1) 0))),kX (q6K (λ(h1:(limbs y).length=0)=>(absurd (nl0.1 h1) (by omega):False)) λ(h2: ¬((limbs y).length=0))=>q6K (λ(h3:j3 x y<0)=>q6K ((Nat.div_eq_of_lt (vt.1 (by omega))).symm:0=x/y) ((q6j (vt.1 (by omega))).symm:x=x%y)) λ(h4: ¬(j3 x y<0))=>q6K (λ(h5:(limbs y).length=1)=>have hyx:=(show y<=x from by have:=mt vt.2 (show¬j3 x y<0 by omega);omega);have hl1:=(show(limbs y).length=1 by omega);have hg0:=qc y 0;have hy1:=(show(limbs y).getD 0 0=y from by have:=wO (x:=y) (by omega);rw[hl1]at this;simpa[qa]using this.symm);I3 (by omega:0<(limbs y).length) (by omega:0<(limbs y).getD 0 0) (by intro u hu;simp only[q5O,q5W,or_false]at hu;subst hu;have:=q6k x (show 0<(limbs y).getD 0 0 by omega);omega: ∀u∈[x%((limbs y).getD 0 0)],u<4294967296) (q6K (by rw[hy1]:x/((limbs y).getD 0 0)=x/y) (by rw[hy1];rfl:qa [x%((limbs y).getD 0 0)]=x%y))) λ(h6: ¬((limbs y).length=1))=>have hyx:=(show y<=x from by have:=mt vt.2 (show¬j3 x y<0 by omega);omega);have hg0:=qc y ((limbs y).length-1);have hsd:= @OF _ hg0;have hC0:=DivC.mk' (x:=x) (y:=y) (by omega) hyx;I2 (by omega:1<=(limbs y).length) (by omega:((limbs y).length) -1<(limbs y).length) ((λ(s:Nat)(hs:s=32-bl ((limbs y).getD (((limbs y).length) -1) 0))=>have hC:=(show DivC x y s from by subst hs;exact hC0);have hss:=hC.hs;have hV:=hC.hV;have hC2:=hC.h2;have hCx:=hC.hyx;I3 (Gc _ _: ∀u∈padL (y*2^s) ((limbs y).length+1),u<4294967296) (Fj y s (by omega):qa (padL (y*2^s) ((limbs y).length+1))=y*2^s) (R8 hx1 (by omega):qM (y*2^s) 1099511627808) ((λ(m:Nat)(hm:m=(limbs y).length)=>have hDt:=(show 2147483648<=(limbs (y*2^s)).getD (m-1) 0 from by subst hm;exact hC.ht);I3 (by omega:m<=(limbs x).length+1) (by omega:((limbs x).length+1) -m=((limbs x).length+1) -m) (DivZ.start hC (by omega):DivZ x y s (((((limbs x).length+1) -m:Nat):Int) -1) (padL (x*2^s) ((limbs x).length+1)) (List.replicate (((limbs x).length+1) -m) (0:Nat))) λ(z:Int)(out:List Nat)(ql:List Nat)(hb7:HB [.s 13 q91 q8m,.bk 66 q98 q8J,.a 77 q98 q8J] (z,out,ql))(hD:DivZ x y s z out ql)=>have hv75:=(show Int.natAbs z<=1099511627776 from hb7.1);have hv76:=(show∀u∈out,u<=4294967295 from hb7.2.1);have hv77:=(show∀u∈ql,u<=4294967295 from hb7.2.2);have hDb:=hD.b;have hg:=(zb (by omega) hD.h.hu: ∀k,out.getD k 0<4294967296);q6K (λ(h8:0<=z)=>(λ(j:Nat)(hj:j=z.toNat)=>have hz0:=(show 0<=z by omega);have hD1:=hD.at hz0 hj;have hga:=hg (j+m);have hgb:=hg (j+m-1);have hgc:=hg (j+m-2);have hva:=qc (y*2^s) (m-1);have hvb:=qc (y*2^s) (m-2);I6 (by omega:z+(m:Int)=((j+m:Nat):Int)) (by omega:j+m<(limbs x).length+1) (by omega:j+m<out.length) (by omega:(z+(m:Int)) -1=((j+m-1:Nat):Int)) (by omega:j+m-1<(limbs x).length+1) (by omega:j+m-1<out.length)<|I2 (CY _ 32 rfl (by omega) (by omega):qU .or .u64 (((out.getD (j+m) 0)*2^32:Nat):Int) ((out.getD (j+m-1) 0:Nat):Int) ((((out.getD (j+m) 0)*2^32)+(out.getD (j+m-1) 0):Nat):Int)) (by omega:((out.getD (j+m) 0)*2^32)+(out.getD (j+m-1) 0)<=18446744073709551615) ((λ(t:Nat)(ht:t=((out.getD (j+m) 0)*2^32)+(out.getD (j+m-1) 0))=>I6 (by omega:1<=m) (by omega:m-1<(limbs (y*2^s)).length) (by omega:0<(limbs (y*2^s)).getD (m-1) 0) (by omega:1<=m) (by omega:m-1<(limbs (y*2^s)).length) (by omega:0<(limbs (y*2^s)).getD (m-1) 0)<|I2 (by subst hm;have hE0:=Est.start hC hD1 ht;first|exact hE0.hq|exact q6c hE0.hr:Bnd q99 (.n 4294967297) (t/((limbs (y*2^s)).getD (m-1) 0))) (by subst hm;exact Est.start hC hD1 ht:Est x y s j out (t/((limbs (y*2^s)).getD (m-1) 0)) (t%((limbs (y*2^s)).getD (m-1) 0))) λ(q:Nat)(r:Nat)(hb9:HB [.s 15 q99 (.n 4294967297),.s 16 q99 q8J] (q,r))(hE:Est x y s j out q r)=>have hv63:=(show q<=4294967297 from hb9.1);have hv64:=(show r<=4294967295 from hb9.2);have hEq:=hE.hq;have hEr:=hE.hr;q6K (λ(h10:4294967296<=q)=>have hTest:=(show 4294967296<=q\/r*4294967296+out.getD (j+m-2) 0<q*(limbs (y*2^s)).getD (m-2) 0 from by first|exact .inl (by omega)|exact .inr (by omega));have hq1:=(show 1<=q from by subst hm;exact(hE.less hC hD1 hTest).2);I3 (by omega:1<=q) (by omega:1<=m) (by omega:m-1<(limbs (y*2^s)).length) (q6K (λ(h11:4294967296<=r+((limbs (y*2^s)).getD (m-1) 0))=>have hG:=(show Dig x y s j out (q-1)from by subst hm;first|exact hE.brk hC hD1 hTest (by omega)|exact hE.fin hC hD1 (by omega) (by omega));I (MsI.start hD1.hu:MsI y s j (q-1) out 0 0 0 out) λ(i2:Nat)(b:Nat)(k:Nat)(ls2:List Nat)(hb12:HB [.s 156 q97 q8p,.s 17 q99 q9q,.s 18 q99 q8J,.bk 66 q98 q8J] (i2,b,k,ls2))(hM:MsI y s j (q-1) out i2 k b ls2)=>have hv23:=(show i2<=137438953472 from hb12.1);have hv24:=(show b<=1 from hb12.2.1);have hv25:=(show k<=4294967295 from hb12.2.2.1);have hv26:=(show∀u∈ls2,u<=4294967295 from hb12.2.2.2);have hMl:=hM.hl;have hMi:=hM.hi;have hMk:=hM.hk;have hMb:=hM.hb;have hGq:=hG.hq;have hmg:=(zb (by omega) hM.hu: ∀k,ls2.getD k 0<4294967296);have hmg0:=hmg (i2+j);have hmt:=hmg (j+m);have hmv:=qc (y*2^s) i2;have hmm:=(q6p (by omega) (by omega):(q-1)*(limbs (y*2^s)).getD i2 0<=4294967295*4294967295);q6K (λ(h13:i2<(limbs (y*2^s)).length)=>I6 (by omega:i2<(limbs (y*2^s)).length) (L8 (by omega):qU .add .u64 (k:Int) (((q-1)*((limbs (y*2^s)).getD i2 0):Nat):Int) ((k+((q-1)*((limbs (y*2^s)).getD i2 0)):Nat):Int)) (by omega:k+((q-1)*((limbs (y*2^s)).getD i2 0))<=18446744073709551615) (by omega:(i2:Int)+z=((i2+j:Nat):Int)) (by omega:i2+j<(limbs x).length+1) (by omega:i2+j<ls2.length)<|I6 (L9 (by omega):qU .and .u64 ((k+((q-1)*((limbs (y*2^s)).getD i2 0)):Nat):Int) 4294967295 (((k+((q-1)*((limbs (y*2^s)).getD i2 0)))%4294967296:Nat):Int)) (by omega:(k+((q-1)*((limbs (y*2^s)).getD i2 0)))%4294967296<=4294967295) (w7 (by first|omega|exact wx) (by omega):qU .sub .u64 ((ls2.getD (i2+j) 0:Nat):Int) (((k+((q-1)*((limbs (y*2^s)).getD i2 0)))%4294967296:Nat):Int) ((dif (ls2.getD (i2+j) 0) ((k+((q-1)*((limbs (y*2^s)).getD i2 0)))%4294967296):Nat):Int)) (zK _ _:dif (ls2.getD (i2+j) 0) ((k+((q-1)*((limbs (y*2^s)).getD i2 0)))%4294967296)<=18446744073709551615) (w7 (by first|omega|exact wx) (by omega):qU .sub .u64 ((dif (ls2.getD (i2+j) 0) ((k+((q-1)*((limbs (y*2^s)).getD i2 0)))%4294967296):Nat):Int) (b:Int) ((dif (dif (ls2.getD (i2+j) 0) ((k+((q-1)*((limbs (y*2^s)).getD i2 0)))%4294967296)) b:Nat):Int)) (zK _ _:dif (dif (ls2.getD (i2+j) 0) ((k+((q-1)*((limbs (y*2^s)).getD i2 0)))%4294967296)) b<=18446744073709551615)<|I4 (by omega:(i2:Int)+z=((i2+j:Nat):Int)) (by omega:i2+j<(limbs x).length+1) (by omega:i2+j<ls2.length) (qy:Bnd q97 q8p (i2+1)) (q6K ((hM.step (by omega) (by omega) hG.hq rfl rfl).1:MsI y s j (q-1) out (i2+1) ((k+((q-1)*((limbs (y*2^s)).getD i2 0)))/2^32) ((dif (dif (ls2.getD (i2+j) 0) ((k+((q-1)*((limbs (y*2^s)).getD i2 0)))%4294967296)) b)/2^63) (ls2.set (i2+j) ((dif (dif (ls2.getD (i2+j) 0) ((k+((q-1)*((limbs (y*2^s)).getD i2 0)))%4294967296)) b)%4294967296))) (by omega:(limbs (y*2^s)).length-(i2+1)<(limbs (y*2^s)).length-i2))) λ(h14: ¬(i2<(limbs (y*2^s)).length))=>have hM1:=(show i2=m by omega)▸hM;I6 (by omega:z+(m:Int)=((j+m:Nat):Int)) (by omega:j+m<(limbs x).length+1) (by omega:j+m<ls2.length) (w7 (by first|omega|exact wx) (by omega):qU .sub .u64 ((ls2.getD (j+m) 0:Nat):Int) (k:Int) ((dif (ls2.getD (j+m) 0) k:Nat):Int)) (zK _ _:dif (ls2.getD (j+m) 0) k<=18446744073709551615) (w7 (by first|omega|exact wx) (by omega):qU .sub .u64 ((dif (ls2.getD (j+m) 0) k:Nat):Int) (b:Int) ((dif (dif (ls2.getD (j+m) 0) k) b:Nat):Int))<|I (zK _ _:dif (dif (ls2.getD (j+m) 0) k) b<=18446744073709551615) ((λ(d:Nat)(hd:d=dif (dif (ls2.getD (j+m) 0) k) b)=>I3 (by omega:z+(m:Int)=((j+m:Nat):Int)) (by omega:j+m<(limbs x).length+1) (by omega:j+m<ls2.length) (have hT:=MsI.top hM1 (by omega) (by omega) hd;have hT1:=hT.1;have hT2:=hT.2.1;have hT3:=hT.2.2.1;have hT4:=hT.2.2.2.1;have hT5:=hT.2.2.2.2;q6K (λ(h15:d/2^63≠0)=>have hd1:=(show d/9223372036854775808=1 by omega);have hT1:=(show _ from by rw[hd1]at hT1;exact hT1);have hq1:=(show 1<=(q-1)from by subst hm;exact Dig.pos hC hD1 hT4 hT5 hT1);I2 (by omega:1<=q-1) (AbI.start hT5:AbI y s j (ls2.set (j+m) (d%4294967296)) 0 0 (ls2.set (j+m) (d%4294967296))) λ(i3:Nat)(c3:Nat)(ls3:List Nat)(hb16:HB [.s 216 q97 q8p,.s 18 q99 q9q,.bk 66 q98 q8J] (i3,c3,ls3))(hB:AbI y s j (ls2.set (j+m) (d%4294967296)) i3 c3 ls3)=>have hv19:=(show i3<=137438953472 from hb16.1);have hv20:=(show c3<=1 from hb16.2.1);have hv21:=(show∀u∈ls3,u<=4294967295 from hb16.2.2);have hBl:=hB.hl;have hBi:=hB.hi;have hBc:=hB.hc;have hbg:=(zb (by omega) hB.hu: ∀k,ls3.getD k 0<4294967296);have hbg0:=hbg (i3+j);have hbt:=hbg (j+m);have hbv:=qc (y*2^s) i3;q6K (λ(h17:i3<(limbs (y*2^s)).length)=>I6 (by omega:i3<(limbs (y*2^s)).length) (by omega:(i3:Int)+z=((i3+j:Nat):Int)) (by omega:i3+j<(limbs x).length+1) (by omega:i3+j<ls3.length) (by omega:(i3:Int)+z=((i3+j:Nat):Int)) (by omega:i3+j<(limbs x).length+1)<|I2 (by omega:i3+j<ls3.length) (qy:Bnd q97 q8p (i3+1)) (q6K (hB.step (by omega) (by omega) rfl:AbI y s j (ls2.set (j+m) (d%4294967296)) (i3+1) ((c3+((ls3.getD (i3+j) 0)+((limbs (y*2^s)).getD i3 0)))/2^32) (ls3.set (i3+j) ((c3+((ls3.getD (i3+j) 0)+((limbs (y*2^s)).getD i3 0)))%4294967296))) (by omega:(limbs (y*2^s)).length-(i3+1)<(limbs (y*2^s)).length-i3))) λ(h18: ¬(i3<(limbs (y*2^s)).length))=>have hB1:=(show i3=m by omega)▸hB;I6 (by omega:z+(m:Int)=((j+m:Nat):Int)) (by omega:j+m<(limbs x).length+1) (by omega:j+m<ls3.length) (IU _ _:qU .add .u32 ((ls3.getD (j+m) 0:Nat):Int) (c3:Int) ((((ls3.getD (j+m) 0)+c3)%4294967296:Nat):Int)) (by omega:((ls3.getD (j+m) 0)+c3)%4294967296<=4294967295) (by omega:z+(m:Int)=((j+m:Nat):Int))<|I2 (by omega:j+m<(limbs x).length+1) (by omega:j+m<ls3.length) (have hA:=AbI.top' hB1 (by omega) (by omega);I4 (by omega:z=(j:Int)) (by omega:j<((limbs x).length+1) -m) (by omega:j<ql.length) (iBd:Bnd q91 q8m (z-1)) (q6K (by subst hm;first|exact DivZ.of hz0 hj (hD1.even hC hG hT4 hT5 hT3 (by rw[show d/9223372036854775808=0 by omega,Nat.mul_zero,q64]at hT1;exact hT1))|exact DivZ.of hz0 hj (hA.elim λc2 hA=>hD1.odd hC hG hT4 hT5 hT3 hT1 hA.2.2.1 hA.2.2.2 hA.2.1 hA.1):DivZ x y s (z-1) (ls3.set (j+m) (((ls3.getD (j+m) 0)+c3)%4294967296)) (ql.set j (((q-1) -1)%4294967296))) (by omega:((z-1)+1).toNat<(z+1).toNat)))) λ(h22: ¬(d/2^63≠0))=>I4 (by omega:z=(j:Int)) (by omega:j<((limbs x).length+1) -m) (by omega:j<ql.length) (iBd:Bnd q91 q8m (z-1)) (q6K (by subst hm;first|exact DivZ.of hz0 hj (hD1.even hC hG hT4 hT5 hT3 (by rw[show d/9223372036854775808=0 by omega,Nat.mul_zero,q64]at hT1;exact hT1))|exact DivZ.of hz0 hj (hA.elim λc2 hA=>hD1.odd hC hG hT4 hT5 hT3 hT1 hA.2.2.1 hA.2.2.2 hA.2.1 hA.1):DivZ x y s (z-1) (ls2.set (j+m) (d%4294967296)) (ql.set j ((q-1)%4294967296))) (by omega:((z-1)+1).toNat<(z+1).toNat)))) (dif (dif (ls2.getD (j+m) 0) k) b) rfl)) λ(h27: ¬(4294967296<=r+((limbs (y*2^s)).getD (m-1) 0)))=>I (qy:Bnd q99 q8J (r+((limbs (y*2^s)).getD (m-1) 0))) (q6K (by subst hm;exact hE.step hC hD1 hTest (by omega):Est x y s j out (q-1) (r+((limbs (y*2^s)).getD (m-1) 0))) (by omega:q-1<q)))) λ(h28: ¬(4294967296<=q))=>I6 (by omega:2<=m) (by omega:m-2<(limbs (y*2^s)).length) (by omega:(z+(m:Int)) -2=((j+m-2:Nat):Int)) (by omega:j+m-2<(limbs x).length+1) (by omega:j+m-2<out.length) (CY _ 32 rfl (hg _) (by have:=hg (j+m-2);omega):qU .or .u64 ((r*2^32:Nat):Int) ((out.getD (j+m-2) 0:Nat):Int) (((r*2^32)+(out.getD (j+m-2) 0):Nat):Int))<|I (by have:=hg (j+m-2);omega:(r*2^32)+(out.getD (j+m-2) 0)<=18446744073709551615) (q6K (λ(h29:(r*2^32)+(out.getD (j+m-2) 0)<q*((limbs (y*2^s)).getD (m-2) 0))=>have hTest:=(show 4294967296<=q\/r*4294967296+out.getD (j+m-2) 0<q*(limbs (y*2^s)).getD (m-2) 0 from by first|exact .inl (by omega)|exact .inr (by omega));have hq1:=(show 1<=q from by subst hm;exact(hE.less hC hD1 hTest).2);I3 (by omega:1<=q) (by omega:1<=m) (by omega:m-1<(limbs (y*2^s)).length) (q6K (λ(h30:4294967296<=r+((limbs (y*2^s)).getD (m-1) 0))=>have hG:=(show Dig x y s j out (q-1)from by subst hm;first|exact hE.brk hC hD1 hTest (by omega)|exact hE.fin hC hD1 (by omega) (by omega));I (MsI.start hD1.hu:MsI y s j (q-1) out 0 0 0 out) λ(i2:Nat)(b:Nat)(k:Nat)(ls2:List Nat)(hb31:HB [.s 156 q97 q8p,.s 17 q99 q9q,.s 18 q99 q8J,.bk 66 q98 q8J] (i2,b,k,ls2))(hM:MsI y s j (q-1) out i2 k b ls2)=>have hv42:=(show i2<=137438953472 from hb31.1);have hv43:=(show b<=1 from hb31.2.1);have hv44:=(show k<=4294967295 from hb31.2.2.1);have hv45:=(show∀u∈ls2,u<=4294967295 from hb31.2.2.2);have hMl:=hM.hl;have hMi:=hM.hi;have hMk:=hM.hk;have hMb:=hM.hb;have hGq:=hG.hq;have hmg:=(zb (by omega) hM.hu: ∀k,ls2.getD k 0<4294967296);have hmg0:=hmg (i2+j);have hmt:=hmg (j+m);have hmv:=qc (y*2^s) i2;have hmm:=(q6p (by omega) (by omega):(q-1)*(limbs (y*2^s)).getD i2 0<=4294967295*4294967295);q6K (λ(h32:i2<(limbs (y*2^s)).length)=>I6 (by omega:i2<(limbs (y*2^s)).length) (L8 (by omega):qU .add .u64 (k:Int) (((q-1)*((limbs (y*2^s)).getD i2 0):Nat):Int) ((k+((q-1)*((limbs (y*2^s)).getD i2 0)):Nat):Int)) (by omega:k+((q-1)*((limbs (y*2^s)).getD i2 0))<=18446744073709551615) (by omega:(i2:Int)+z=((i2+j:Nat):Int)) (by omega:i2+j<(limbs x).length+1) (by omega:i2+j<ls2.length)<|I6 (L9 (by omega):qU .and .u64 ((k+((q-1)*((limbs (y*2^s)).getD i2 0)):Nat):Int) 4294967295 (((k+((q-1)*((limbs (y*2^s)).getD i2 0)))%4294967296:Nat):Int)) (by omega:(k+((q-1)*((limbs (y*2^s)).getD i2 0)))%4294967296<=4294967295) (w7 (by first|omega|exact wx) (by omega):qU .sub .u64 ((ls2.getD (i2+j) 0:Nat):Int) (((k+((q-1)*((limbs (y*2^s)).getD i2 0)))%4294967296:Nat):Int) ((dif (ls2.getD (i2+j) 0) ((k+((q-1)*((limbs (y*2^s)).getD i2 0)))%4294967296):Nat):Int)) (zK _ _:dif (ls2.getD (i2+j) 0) ((k+((q-1)*((limbs (y*2^s)).getD i2 0)))%4294967296)<=18446744073709551615) (w7 (by first|omega|exact wx) (by omega):qU .sub .u64 ((dif (ls2.getD (i2+j) 0) ((k+((q-1)*((limbs (y*2^s)).getD i2 0)))%4294967296):Nat):Int) (b:Int) ((dif (dif (ls2.getD (i2+j) 0) ((k+((q-1)*((limbs (y*2^s)).getD i2 0)))%4294967296)) b:Nat):Int)) (zK _ _:dif (dif (ls2.getD (i2+j) 0) ((k+((q-1)*((limbs (y*2^s)).getD i2 0)))%4294967296)) b<=18446744073709551615)<|I4 (by omega:(i2:Int)+z=((i2+j:Nat):Int)) (by omega:i2+j<(limbs x).length+1) (by omega:i2+j<ls2.length) (qy:Bnd q97 q8p (i2+1)) (q6K ((hM.step (by omega) (by omega) hG.hq rfl rfl).1:MsI y s j (q-1) out (i2+1) ((k+((q-1)*((limbs (y*2^s)).getD i2 0)))/2^32) ((dif (dif (ls2.getD (i2+j) 0) ((k+((q-1)*((limbs (y*2^s)).getD i2 0)))%4294967296)) b)/2^63) (ls2.set (i2+j) ((dif (dif (ls2.getD (i2+j) 0) ((k+((q-1)*((limbs (y*2^s)).getD i2 0)))%4294967296)) b)%4294967296))) (by omega:(limbs (y*2^s)).length-(i2+1)<(limbs (y*2^s)).length-i2))) λ(h33: ¬(i2<(limbs (y*2^s)).length))=>have hM1:=(show i2=m by omega)▸hM;I6 (by omega:z+(m:Int)=((j+m:Nat):Int)) (by omega:j+m<(limbs x).length+1) (by omega:j+m<ls2.length) (w7 (by first|omega|exact wx) (by omega):qU .sub .u64 ((ls2.getD (j+m) 0:Nat):Int) (k:Int) ((dif (ls2.getD (j+m) 0) k:Nat):Int)) (zK _ _:dif (ls2.getD (j+m) 0) k<=18446744073709551615) (w7 (by first|omega|exact wx) (by omega):qU .sub .u64 ((dif (ls2.getD (j+m) 0) k:Nat):Int) (b:Int) ((dif (dif (ls2.getD (j+m) 0) k) b:Nat):Int))<|I (zK _ _:dif (dif (ls2.getD (j+m) 0) k) b<=18446744073709551615) ((λ(d:Nat)(hd:d=dif (dif (ls2.getD (j+m) 0) k) b)=>I3 (by omega:z+(m:Int)=((j+m:Nat):Int)) (by omega:j+m<(limbs x).length+1) (by omega:j+m<ls2.length) (have hT:=MsI.top hM1 (by omega) (by omega) hd;have hT1:=hT.1;have hT2:=hT.2.1;have hT3:=hT.2.2.1;have hT4:=hT.2.2.2.1;have hT5:=hT.2.2.2.2;q6K (λ(h34:d/2^63≠0)=>have hd1:=(show d/9223372036854775808=1 by omega);have hT1:=(show _ from by rw[hd1]at hT1;exact hT1);have hq1:=(show 1<=(q-1)from by subst hm;exact Dig.pos hC hD1 hT4 hT5 hT1);I2 (by omega:1<=q-1) (AbI.start hT5:AbI y s j (ls2.set (j+m) (d%4294967296)) 0 0 (ls2.set (j+m) (d%4294967296))) λ(i3:Nat)(c3:Nat)(ls3:List Nat)(hb35:HB [.s 216 q97 q8p,.s 18 q99 q9q,.bk 66 q98 q8J] (i3,c3,ls3))(hB:AbI y s j (ls2.set (j+m) (d%4294967296)) i3 c3 ls3)=>have hv38:=(show i3<=137438953472 from hb35.1);have hv39:=(show c3<=1 from hb35.2.1);have hv40:=(show∀u∈ls3,u<=4294967295 from hb35.2.2);have hBl:=hB.hl;have hBi:=hB.hi;have hBc:=hB.hc;have hbg:=(zb (by omega) hB.hu: ∀k,ls3.getD k 0<4294967296);have hbg0:=hbg (i3+j);have hbt:=hbg (j+m);have hbv:=qc (y*2^s) i3;q6K (λ(h36:i3<(limbs (y*2^s)).length)=>I6 (by omega:i3<(limbs (y*2^s)).length) (by omega:(i3:Int)+z=((i3+j:Nat):Int)) (by omega:i3+j<(limbs x).length+1) (by omega:i3+j<ls3.length) (by omega:(i3:Int)+z=((i3+j:Nat):Int)) (by omega:i3+j<(limbs x).length+1)<|I2 (by omega:i3+j<ls3.length) (qy:Bnd q97 q8p (i3+1)) (q6K (hB.step (by omega) (by omega) rfl:AbI y s j (ls2.set (j+m) (d%4294967296)) (i3+1) ((c3+((ls3.getD (i3+j) 0)+((limbs (y*2^s)).getD i3 0)))/2^32) (ls3.set (i3+j) ((c3+((ls3.getD (i3+j) 0)+((limbs (y*2^s)).getD i3 0)))%4294967296))) (by omega:(limbs (y*2^s)).length-(i3+1)<(limbs (y*2^s)).length-i3))) λ(h37: ¬(i3<(limbs (y*2^s)).length))=>have hB1:=(show i3=m by omega)▸hB;I6 (by omega:z+(m:Int)=((j+m:Nat):Int)) (by omega:j+m<(limbs x).length+1) (by omega:j+m<ls3.length) (IU _ _:qU .add .u32 ((ls3.getD (j+m) 0:Nat):Int) (c3:Int) ((((ls3.getD (j+m) 0)+c3)%4294967296:Nat):Int)) (by omega:((ls3.getD (j+m) 0)+c3)%4294967296<=4294967295) (by omega:z+(m:Int)=((j+m:Nat):Int))<|I2 (by omega:j+m<(limbs x).length+1) (by omega:j+m<ls3.length) (have hA:=AbI.top' hB1 (by omega) (by omega);I4 (by omega:z=(j:Int)) (by omega:j<((limbs x).length+1) -m) (by omega:j<ql.length) (iBd:Bnd q91 q8m (z-1)) (q6K (by subst hm;first|exact DivZ.of hz0 hj (hD1.even hC hG hT4 hT5 hT3 (by rw[show d/9223372036854775808=0 by omega,Nat.mul_zero,q64]at hT1;exact hT1))|exact DivZ.of hz0 hj (hA.elim λc2 hA=>hD1.odd hC hG hT4 hT5 hT3 hT1 hA.2.2.1 hA.2.2.2 hA.2.1 hA.1):DivZ x y s (z-1) (ls3.set (j+m) (((ls3.getD (j+m) 0)+c3)%4294967296)) (ql.set j (((q-1) -1)%4294967296))) (by omega:((z-1)+1).toNat<(z+1).toNat)))) λ(h41: ¬(d/2^63≠0))=>I4 (by omega:z=(j:Int)) (by omega:j<((limbs x).length+1) -m) (by omega:j<ql.length) (iBd:Bnd q91 q8m (z-1)) (q6K (by subst hm;first|exact DivZ.of hz0 hj (hD1.even hC hG hT4 hT5 hT3 (by rw[show d/9223372036854775808=0 by omega,Nat.mul_zero,q64]at hT1;exact hT1))|exact DivZ.of hz0 hj (hA.elim λc2 hA=>hD1.odd hC hG hT4 hT5 hT3 hT1 hA.2.2.1 hA.2.2.2 hA.2.1 hA.1):DivZ x y s (z-1) (ls2.set (j+m) (d%4294967296)) (ql.set j ((q-1)%4294967296))) (by omega:((z-1)+1).toNat<(z+1).toNat)))) (dif (dif (ls2.getD (j+m) 0) k) b) rfl)) λ(h46: ¬(4294967296<=r+((limbs (y*2^s)).getD (m-1) 0)))=>I (qy:Bnd q99 q8J (r+((limbs (y*2^s)).getD (m-1) 0))) (q6K (by subst hm;exact hE.step hC hD1 hTest (by omega):Est x y s j out (q-1) (r+((limbs (y*2^s)).getD (m-1) 0))) (by omega:q-1<q)))) λ(h47: ¬((r*2^32)+(out.getD (j+m-2) 0)<q*((limbs (y*2^s)).getD (m-2) 0)))=>have hG:=(show Dig x y s j out q from by subst hm;first|exact hE.brk hC hD1 hTest (by omega)|exact hE.fin hC hD1 (by omega) (by omega));I (MsI.start hD1.hu:MsI y s j q out 0 0 0 out) λ(i2:Nat)(b:Nat)(k:Nat)(ls2:List Nat)(hb48:HB [.s 156 q97 q8p,.s 17 q99 q9q,.s 18 q99 q8J,.bk 66 q98 q8J] (i2,b,k,ls2))(hM:MsI y s j q out i2 k b ls2)=>have hv59:=(show i2<=137438953472 from hb48.1);have hv60:=(show b<=1 from hb48.2.1);have hv61:=(show k<=4294967295 from hb48.2.2.1);have hv62:=(show∀u∈ls2,u<=4294967295 from hb48.2.2.2);have hMl:=hM.hl;have hMi:=hM.hi;have hMk:=hM.hk;have hMb:=hM.hb;have hGq:=hG.hq;have hmg:=(zb (by omega) hM.hu: ∀k,ls2.getD k 0<4294967296);have hmg0:=hmg (i2+j);have hmt:=hmg (j+m);have hmv:=qc (y*2^s) i2;have hmm:=(q6p (by omega) (by omega):q*(limbs (y*2^s)).getD i2 0<=4294967295*4294967295);q6K (λ(h49:i2<(limbs (y*2^s)).length)=>I6 (by omega:i2<(limbs (y*2^s)).length) (L8 (by omega):qU .add .u64 (k:Int) ((q*((limbs (y*2^s)).getD i2 0):Nat):Int) ((k+(q*((limbs (y*2^s)).getD i2 0)):Nat):Int)) (by omega:k+(q*((limbs (y*2^s)).getD i2 0))<=18446744073709551615) (by omega:(i2:Int)+z=((i2+j:Nat):Int)) (by omega:i2+j<(limbs x).length+1) (by omega:i2+j<ls2.length)<|I6 (L9 (by omega):qU .and .u64 ((k+(q*((limbs (y*2^s)).getD i2 0)):Nat):Int) 4294967295 (((k+(q*((limbs (y*2^s)).getD i2 0)))%4294967296:Nat):Int)) (by omega:(k+(q*((limbs (y*2^s)).getD i2 0)))%4294967296<=4294967295) (w7 (by first|omega|exact wx) (by omega):qU .sub .u64 ((ls2.getD (i2+j) 0:Nat):Int) (((k+(q*((limbs (y*2^s)).getD i2 0)))%4294967296:Nat):Int) ((dif (ls2.getD (i2+j) 0) ((k+(q*((limbs (y*2^s)).getD i2 0)))%4294967296):Nat):Int)) (zK _ _:dif (ls2.getD (i2+j) 0) ((k+(q*((limbs (y*2^s)).getD i2 0)))%4294967296)<=18446744073709551615) (w7 (by first|omega|exact wx) (by omega):qU .sub .u64 ((dif (ls2.getD (i2+j) 0) ((k+(q*((limbs (y*2^s)).getD i2 0)))%4294967296):Nat):Int) (b:Int) ((dif (dif (ls2.getD (i2+j) 0) ((k+(q*((limbs (y*2^s)).getD i2 0)))%4294967296)) b:Nat):Int)) (zK _ _:dif (dif (ls2.getD (i2+j) 0) ((k+(q*((limbs (y*2^s)).getD i2 0)))%4294967296)) b<=18446744073709551615)<|I4 (by omega:(i2:Int)+z=((i2+j:Nat):Int)) (by omega:i2+j<(limbs x).length+1) (by omega:i2+j<ls2.length) (qy:Bnd q97 q8p (i2+1)) (q6K ((hM.step (by omega) (by omega) hG.hq rfl rfl).1:MsI y s j q out (i2+1) ((k+(q*((limbs (y*2^s)).getD i2 0)))/2^32) ((dif (dif (ls2.getD (i2+j) 0) ((k+(q*((limbs (y*2^s)).getD i2 0)))%4294967296)) b)/2^63) (ls2.set (i2+j) ((dif (dif (ls2.getD (i2+j) 0) ((k+(q*((limbs (y*2^s)).getD i2 0)))%4294967296)) b)%4294967296))) (by omega:(limbs (y*2^s)).length-(i2+1)<(limbs (y*2^s)).length-i2))) λ(h50: ¬(i2<(limbs (y*2^s)).length))=>have hM1:=(show i2=m by omega)▸hM;I6 (by omega:z+(m:Int)=((j+m:Nat):Int)) (by omega:j+m<(limbs x).length+1) (by omega:j+m<ls2.length) (w7 (by first|omega|exact wx) (by omega):qU .sub .u64 ((ls2.getD (j+m) 0:Nat):Int) (k:Int) ((dif (ls2.getD (j+m) 0) k:Nat):Int)) (zK _ _:dif (ls2.getD (j+m) 0) k<=18446744073709551615) (w7 (by first|omega|exact wx) (by omega):qU .sub .u64 ((dif (ls2.getD (j+m) 0) k:Nat):Int) (b:Int) ((dif (dif (ls2.getD (j+m) 0) k) b:Nat):Int))<|I (zK _ _:dif (dif (ls2.getD (j+m) 0) k) b<=18446744073709551615) ((λ(d:Nat)(hd:d=dif (dif (ls2.getD (j+m) 0) k) b)=>I3 (by omega:z+(m:Int)=((j+m:Nat):Int)) (by omega:j+m<(limbs x).length+1) (by omega:j+m<ls2.length) (have hT:=MsI.top hM1 (by omega) (by omega) hd;have hT1:=hT.1;have hT2:=hT.2.1;have hT3:=hT.2.2.1;have hT4:=hT.2.2.2.1;have hT5:=hT.2.2.2.2;q6K (λ(h51:d/2^63≠0)=>have hd1:=(show d/9223372036854775808=1 by omega);have hT1:=(show _ from by rw[hd1]at hT1;exact hT1);have hq1:=(show 1<=q from by subst hm;exact Dig.pos hC hD1 hT4 hT5 hT1);I2 (by omega:1<=q) (AbI.start hT5:AbI y s j (ls2.set (j+m) (d%4294967296)) 0 0 (ls2.set (j+m) (d%4294967296))) λ(i3:Nat)(c3:Nat)(ls3:List Nat)(hb52:HB [.s 216 q97 q8p,.s 18 q99 q9q,.bk 66 q98 q8J] (i3,c3,ls3))(hB:AbI y s j (ls2.set (j+m) (d%4294967296)) i3 c3 ls3)=>have hv55:=(show i3<=137438953472 from hb52.1);have hv56:=(show c3<=1 from hb52.2.1);have hv57:=(show∀u∈ls3,u<=4294967295 from hb52.2.2);have hBl:=hB.hl;have hBi:=hB.hi;have hBc:=hB.hc;have hbg:=(zb (by omega) hB.hu: ∀k,ls3.getD k 0<4294967296);have hbg0:=hbg (i3+j);have hbt:=hbg (j+m);have hbv:=qc (y*2^s) i3;q6K (λ(h53:i3<(limbs (y*2^s)).length)=>I6 (by omega:i3<(limbs (y*2^s)).length) (by omega:(i3:Int)+z=((i3+j:Nat):Int)) (by omega:i3+j<(limbs x).length+1) (by omega:i3+j<ls3.length) (by omega:(i3:Int)+z=((i3+j:Nat):Int)) (by omega:i3+j<(limbs x).length+1)<|I2 (by omega:i3+j<ls3.length) (qy:Bnd q97 q8p (i3+1)) (q6K (hB.step (by omega) (by omega) rfl:AbI y s j (ls2.set (j+m) (d%4294967296)) (i3+1) ((c3+((ls3.getD (i3+j) 0)+((limbs (y*2^s)).getD i3 0)))/2^32) (ls3.set (i3+j) ((c3+((ls3.getD (i3+j) 0)+((limbs (y*2^s)).getD i3 0)))%4294967296))) (by omega:(limbs (y*2^s)).length-(i3+1)<(limbs (y*2^s)).length-i3))) λ(h54: ¬(i3<(limbs (y*2^s)).length))=>have hB1:=(show i3=m by omega)▸hB;I6 (by omega:z+(m:Int)=((j+m:Nat):Int)) (by omega:j+m<(limbs x).length+1) (by omega:j+m<ls3.length) (IU _ _:qU .add .u32 ((ls3.getD (j+m) 0:Nat):Int) (c3:Int) ((((ls3.getD (j+m) 0)+c3)%4294967296:Nat):Int)) (by omega:((ls3.getD (j+m) 0)+c3)%4294967296<=4294967295) (by omega:z+(m:Int)=((j+m:Nat):Int))<|I2 (by omega:j+m<(limbs x).length+1) (by omega:j+m<ls3.length) (have hA:=AbI.top' hB1 (by omega) (by omega);I4 (by omega:z=(j:Int)) (by omega:j<((limbs x).length+1) -m) (by omega:j<ql.length) (iBd:Bnd q91 q8m (z-1)) (q6K (by subst hm;first|exact DivZ.of hz0 hj (hD1.even hC hG hT4 hT5 hT3 (by rw[show d/9223372036854775808=0 by omega,Nat.mul_zero,q64]at hT1;exact hT1))|exact DivZ.of hz0 hj (hA.elim λc2 hA=>hD1.odd hC hG hT4 hT5 hT3 hT1 hA.2.2.1 hA.2.2.2 hA.2.1 hA.1):DivZ x y s (z-1) (ls3.set (j+m) (((ls3.getD (j+m) 0)+c3)%4294967296)) (ql.set j ((q-1)%4294967296))) (by omega:((z-1)+1).toNat<(z+1).toNat)))) λ(h58: ¬(d/2^63≠0))=>I4 (by omega:z=(j:Int)) (by omega:j<((limbs x).length+1) -m) (by omega:j<ql.length) (iBd:Bnd q91 q8m (z-1)) (q6K (by subst hm;first|exact DivZ.of hz0 hj (hD1.even hC hG hT4 hT5 hT3 (by rw[show d/9223372036854775808=0 by omega,Nat.mul_zero,q64]at hT1;exact hT1))|exact DivZ.of hz0 hj (hA.elim λc2 hA=>hD1.odd hC hG hT4 hT5 hT3 hT1 hA.2.2.1 hA.2.2.2 hA.2.1 hA.1):DivZ x y s (z-1) (ls2.set (j+m) (d%4294967296)) (ql.set j (q%4294967296))) (by omega:((z-1)+1).toNat<(z+1).toNat)))) (dif (dif (ls2.getD (j+m) 0) k) b) rfl))) (((out.getD (j+m) 0)*2^32)+(out.getD (j+m-1) 0)) rfl)) z.toNat rfl) λ(h65: ¬(0<=z))=>have hF:=hD.fin (by omega);I2 (by omega:(limbs x).length+1=out.length) (DownI.start hF.2.2.2 hDb.2.2.1 rfl:DownI (qa out) s ((limbs x).length+1) 0 out) λ(i4:Nat)(ls4:List Nat)(hb66:HB [.s 262 q97 q8m,.bk 66 q98 q8J] (i4,ls4))(hW:DownI (qa out) s ((limbs x).length+1) i4 ls4)=>have hv73:=(show i4<=1099511627776 from hb66.1);have hv74:=(show∀u∈ls4,u<=4294967295 from hb66.2);have hWl:=hW.hl;have hWi:=hW.hi;have hWN:=hW.hN;have hwg:=(zb (by omega) hW.hu: ∀k,ls4.getD k 0<4294967296);q6K (λ(h67:i4<(limbs (qa out)).length)=>I6 (by omega:i4<(limbs (qa out)).length) (by omega:i4<ls4.length) (La _ _ (show s<=32 by omega):qU .shr .u32 ((ls4.getD i4 0:Nat):Int) (s:Int) (((ls4.getD i4 0)/2^s:Nat):Int)) (q6e (q65 _ _) (by have:=hwg i4;omega):(ls4.getD i4 0)/2^s<=4294967295) (by omega:i4<(limbs (qa out)).length) (by omega:i4<ls4.length) (q6K (λ(h68:0<s)=>q6K (λ(h69:i4+1<(limbs (qa out)).length)=>I6 (by omega:i4<(limbs (qa out)).length) (by simp only[q6S];omega:i4<(ls4.set i4 ((ls4.getD i4 0)/2^s)).length) (by omega:i4+1<(limbs (qa out)).length) (by simp only[q6S];omega:i4+1<(ls4.set i4 ((ls4.getD i4 0)/2^s)).length) (by omega:s<=32) (Vs _ _ (by omega):qU .shl .u32 (((ls4.set i4 ((ls4.getD i4 0)/2^s)).getD (i4+1) 0:Nat):Int) ((32-s:Nat):Int) ((((ls4.set i4 ((ls4.getD i4 0)/2^s)).getD (i4+1) 0)*2^(32-s)%4294967296:Nat):Int))<|I6 (by omega:((ls4.set i4 ((ls4.getD i4 0)/2^s)).getD (i4+1) 0)*2^(32-s)%4294967296<=4294967295) ((Nz (by omega) hwg (by omega)).1:qU .or .u32 (((ls4.set i4 ((ls4.getD i4 0)/2^s)).getD i4 0:Nat):Int) ((((ls4.set i4 ((ls4.getD i4 0)/2^s)).getD (i4+1) 0)*2^(32-s)%4294967296:Nat):Int) ((((ls4.set i4 ((ls4.getD i4 0)/2^s)).getD i4 0)+(((ls4.set i4 ((ls4.getD i4 0)/2^s)).getD (i4+1) 0)*2^(32-s)%4294967296):Nat):Int)) ((Nz (by omega) hwg (by omega)).2:((ls4.set i4 ((ls4.getD i4 0)/2^s)).getD i4 0)+(((ls4.set i4 ((ls4.getD i4 0)/2^s)).getD (i4+1) 0)*2^(32-s)%4294967296)<=4294967295) (by omega:i4<(limbs (qa out)).length) (by simp only[q6S];omega:i4<(ls4.set i4 ((ls4.getD i4 0)/2^s)).length) (qy:Bnd q97 q8m (i4+1)) (q6K (by first|exact hW.step1 (by omega) (by omega) (by omega)|exact hW.step2 (by omega) (by omega):DownI (qa out) s ((limbs x).length+1) (i4+1) ((ls4.set i4 ((ls4.getD i4 0)/2^s)).set i4 (((ls4.set i4 ((ls4.getD i4 0)/2^s)).getD i4 0)+(((ls4.set i4 ((ls4.getD i4 0)/2^s)).getD (i4+1) 0)*2^(32-s)%4294967296)))) (by omega:(limbs (qa out)).length-(i4+1)<(limbs (qa out)).length-i4))) λ(h70: ¬(i4+1<(limbs (qa out)).length))=>I (qy:Bnd q97 q8m (i4+1)) (q6K (by first|exact hW.step1 (by omega) (by omega) (by omega)|exact hW.step2 (by omega) (by omega):DownI (qa out) s ((limbs x).length+1) (i4+1) (ls4.set i4 ((ls4.getD i4 0)/2^s))) (by omega:(limbs (qa out)).length-(i4+1)<(limbs (qa out)).length-i4))) λ(h71: ¬(0<s))=>I (qy:Bnd q97 q8m (i4+1)) (q6K (by first|exact hW.step1 (by omega) (by omega) (by omega)|exact hW.step2 (by omega) (by omega):DownI (qa out) s ((limbs x).length+1) (i4+1) (ls4.set i4 ((ls4.getD i4 0)/2^s))) (by omega:(limbs (qa out)).length-(i4+1)<(limbs (qa out)).length-i4)))) λ(h72: ¬(i4<(limbs (qa out)).length))=>I2 (by omega:((limbs x).length+1) -m=ql.length) (by omega:(limbs (qa out)).length<=ls4.length) (have hFin:=(DownI.fin' hW (by omega) rfl);I2 (hF.2.2.1: ∀u∈ql,u<4294967296) (hFin.2: ∀u∈ls4.take ((limbs (qa out)).length),u<4294967296) (q6K (hF.1:qa ql=x/y) (by rw[hFin.1,hF.2.1,Nat.mul_div_cancel _ (q6w (by omega))]:qa (ls4.take ((limbs (qa out)).length))=x%y)))) ((limbs (y*2^s)).length) hV)) (32-bl ((limbs y).getD (((limbs y).length) -1) 0)) rfl))⟩)
theorem Uo:FI.OK ⟨127,[.mag,.mag],[q8m,q8m],λ_=>[],λb z=>(λ(x:Nat)(y:Nat)=>oO .mag (.n (max (b0 b).nb (b1 b).nb)) (Nat.gcd x y)) z.1 z.2⟩ Pg:=mF Tryz.func127 [(92,.c Eh),(140,.cI Ug),(142,.c Co),(190,.cI Xm),(191,.cI of_k)] (λ(x:Nat)(y:Nat) b hx hp=>q8 (NO (Bnds.h2 hx).1.mag (Bnds.h2 hx).2.mag) rfl) (λ(x:Nat)(y:Nat) hx hp=>by
 have hx0:qM x 1099511627776:=hx.1;have hl0:(limbs x).length<=34359738369:=qq (q6b hx0);have hx1:qM y 1099511627776:=hx.2;have hl1:(limbs y).length<=34359738369:=qq (q6b hx1)
 refine⟨.loop [.s 5 .mag q8m,.s 6 .mag q8m] (λ((a,b):Nat×Nat)=>Nat.gcd a b=Nat.gcd x y) (λ((a,b):Nat×Nat)=>b) λ((a,b):Nat×Nat)=> .cond .nil<|.cond .nil<|.cond (.loop [.s 13 q99 q8h,.s 14 q99 q8h] (λ((u,v):Nat×Nat)=>Nat.gcd u v=Nat.gcd x y) (λ((u,v):Nat×Nat)=>v) λ((u,v):Nat×Nat)=> .nil)<|.loop [.s 13 q99 q8h,.s 14 q99 q8h] (λ((u,v):Nat×Nat)=>Nat.gcd u v=Nat.gcd x y) (λ((u,v):Nat×Nat)=>v) λ((u,v):Nat×Nat)=> .nil,kX (I (rfl:Nat.gcd x y=Nat.gcd x y) λ(a:Nat)(b:Nat)(hb1:HB [.s 5 .mag q8m,.s 6 .mag q8m] (a,b))(hC:Nat.gcd a b=Nat.gcd x y)=>Sp (2<(limbs b).length) (λh2=>have hb0:=(show 0<b from q6t λe=>by have:=nl0.2 e;omega);I (hb0:0<b) (q6K ((wK a b).trans hC:Nat.gcd b (a%b)=Nat.gcd x y) (q6k _ hb0:a%b<b))) λh3=>Sp ((limbs b).length=0) (λh4=>(by have e:=nl0.1 (show(limbs b).length=0 by omega);rw[e,Nat.gcd_zero_right]at hC;exact hC:a=Nat.gcd x y)) λh5=>Sp (2<(limbs a).length) (λh6=>have hb0:=(show 0<b from q6t λe=>by have:=nl0.2 e;omega);I4 (hb0:0<b) (?_:(limbs b).length<=2) (?_:(limbs (a%b)).length<=2) (by first|exact hC|exact(wK a b).trans hC:Nat.gcd b (a%b)=Nat.gcd x y) λ(u:Nat)(v:Nat)(hb7:HB [.s 13 q99 q8h,.s 14 q99 q8h] (u,v))(hK:Nat.gcd u v=Nat.gcd x y)=>have hv10:=(show u<=18446744073709551615 from hb7.1);have hv11:=(show v<=18446744073709551615 from hb7.2);Sp (v≠0) (λh8=>I (?_:0<v) (q6K ((wK u v).trans hK:Nat.gcd v (u%v)=Nat.gcd x y) (q6k _ (by omega):u%v<v))) λh9=>(by rw[show v=0 by omega,Nat.gcd_zero_right]at hK;exact hK:u=Nat.gcd x y)) λh12=>I3 (?_:(limbs a).length<=2) (?_:(limbs b).length<=2) (by first|exact hC|exact(wK a b).trans hC:Nat.gcd a b=Nat.gcd x y) λ(u:Nat)(v:Nat)(hb13:HB [.s 13 q99 q8h,.s 14 q99 q8h] (u,v))(hK:Nat.gcd u v=Nat.gcd x y)=>have hv16:=(show u<=18446744073709551615 from hb13.1);have hv17:=(show v<=18446744073709551615 from hb13.2);Sp (v≠0) (λh14=>I (?_:0<v) (q6K ((wK u v).trans hK:Nat.gcd v (u%v)=Nat.gcd x y) (q6k _ (by omega):u%v<v))) λh15=>(by rw[show v=0 by omega,Nat.gcd_zero_right]at hK;exact hK:u=Nat.gcd x y))⟩<;>first|omega|(first|omega|exact q6e (zU (q6b (q6k a hb0))) (by omega)))
theorem RT:FI.OK ⟨143,[],[],λ_=>[],λb z=>oO .mag (.n (1)) (1)⟩ Pg:=mF Tryz.func143 [] (λ b hx hp=>q8 (Ja rfl) rfl) (λ hx hp=>by
 refine⟨.h 1 0 (.mk (.im q98 q8J))<|.h 1 1 (.mag 1 1) .nil,kX (I2 (AS.symm:[1]=limbs 1) (Ja rfl:qM 1 1) ((q6J 1)))⟩)
theorem O5:FI.OK ⟨156,[q91],[(.n 9223372036854775807)],λ_=>[],λb z=>(λ(v:Int)=>oO .mag (.n (Nat.log2 (b0 b).nb+1)) (v.natAbs)) z⟩ Pg:=mF Tryz.func156 [(191,.cI of_k)] (λ(v:Int) b hx hp=>q8 (Ap (Bnds.h1 hx).int) rfl) (λ(v:Int) hx hp=>by
 have hx0:Int.natAbs v<=9223372036854775807:=hx
 refine⟨.cond (.dead)<|.h 3 4 (.i (.n v.natAbs 9223372036854775807)) .nil,kX (Sp (v=(-9223372036854775808)) (λh1=>(?_:False)) λh2=>I2 (by rw[show max v (-v)=((v.natAbs:Nat):Int) by omega];exact Ak (by omega):IntKind.wrap .u64 (max v (-v))=((v.natAbs:Nat):Int)) (?_:v.natAbs<=9223372036854775807) ((q6J v.natAbs)))⟩<;>omega)
theorem Fk:FI.OK ⟨85,[.rat],[q8m],λ_=>[],λb z=>(λ(x:Rat)=>oO .mag (.n ((b0 b).nb+1)) (x.den)) z⟩ Pg:=mF Tryz.func85 [(143,.cI RT)] (λ(x:Rat) b hx hp=>q8 (An (Bnds.h1 hx).rat.2) rfl) (λ(x:Rat) hx hp=>by
 have hx0:Bnd .rat q8m x:=hx
 refine⟨.cond .nil<|.h 3 2 (.mag x.den 1099511627777) .nil,kX (Sp ((denL x.den).length=0) (λh1=>((CC x.den_nz (by omega)).symm:1=x.den)) λh2=>I2 (C2 (by omega):denL x.den=limbs x.den) (An hx0.2:qM x.den 1099511627777) ((q6J x.den)))⟩)
theorem q2R:FI.OK ⟨138,[q99,q99],[q8h,q8h],λ_=>[],λb z=>(λ(n:Nat)(d:Nat)=>oO q99 (.n (max (b0 b).nb (b1 b).nb)) (Nat.gcd n d)) z.1 z.2⟩ Pg:=mF Tryz.func138 [] (λ(n:Nat)(d:Nat) b hx hp=>q8 (WH (Bnds.h2 hx).1.nat (Bnds.h2 hx).2.nat) rfl) (λ(n:Nat)(d:Nat) hx hp=>by
 have hx0:n<=18446744073709551615:=hx.1;have hx1:d<=18446744073709551615:=hx.2
 refine⟨.loop [.s 0 q99 q8h,.s 1 q99 q8h] (λ((u,v):Nat×Nat)=>Nat.gcd u v=Nat.gcd n d) (λ((u,v):Nat×Nat)=>v) λ((u,v):Nat×Nat)=> .nil,kX (I (rfl:Nat.gcd n d=Nat.gcd n d) λ(u:Nat)(v:Nat)(hb1:HB [.s 0 q99 q8h,.s 1 q99 q8h] (u,v))(hK:Nat.gcd u v=Nat.gcd n d)=>have hv4:=(show u<=18446744073709551615 from hb1.1);have hv5:=(show v<=18446744073709551615 from hb1.2);Sp (v≠0) (λh2=>I (?_:0<v) (q6K ((wK u v).trans hK:Nat.gcd v (u%v)=Nat.gcd n d) (q6k _ (by omega):u%v<v))) λh3=>(by rw[show v=0 by omega,Nat.gcd_zero_right]at hK;exact hK:u=Nat.gcd n d))⟩<;>omega)
abbrev TA:FV:=⟨139,false,q98,q8J,1099511627776,[q99],[q8h],λl lo n cap z=>(λ(v:Nat)=>[2<=n,lo+2<=l.length,v<=18446744073709551615]) z,λk b l lo n cap z=>(λ(v:Nat)=>oO q97 q9r (nlw v)) z,λl lo n cap z=>(λ(v:Nat)=>vS l lo v) z⟩
theorem TB:TA.OK Pg:=mkSl hmix 17 Tryz.func139 rfl rfl (by decide) [] (λ_=>rfl) (λ_ _ _ _ _=>rfl) (λ_ _ _ _ _ _ _=>rfl) (λ_ _ _ _ _ _=>rfl) (λ(l:List Nat)(lo n cap:Nat)(v:Nat) k b hx hs hn(hm:n<=1099511627776) hp=>⟨q8 (Ma v).2 rfl,To (hp _ (q5P _ (q5P _ q5Q))) hs⟩) (λ(l:List Nat)(lo n cap:Nat)(v:Nat) hs hx hn(hm:n<=1099511627776) hp=>by
 have hx0:v<=18446744073709551615:=hx;have hp0:2<=n:=hp _ (q5Q);have hp1:lo+2<=l.length:=hp _ (q5P _ (q5Q));have hp2:v<=18446744073709551615:=hp _ (q5P _ (q5P _ (q5Q)))
 refine⟨.nil,kX (I2 (?_:0<n) (?_:lo+0<l.length)<|Sp (v/2^32=0) (λh1=>q6K (by rw[vS,if_pos (by assumption)]:l.set (lo+0) (v%4294967296)=vS l lo v) ((by rw[nlw,if_pos (by assumption)]:1=nlw v))) λh2=>I2 (?_:1<n) (by simp only[q6S];omega:lo+1<(l.set (lo+0) (v%4294967296)).length) (q6K (by rw[vS,if_neg (by assumption)]:(l.set (lo+0) (v%4294967296)).set (lo+1) (v/2^32)=vS l lo v) ((by rw[nlw,if_neg (by assumption)]:2=nlw v))))⟩<;>omega)
noncomputable abbrev rlimbs_c:CtrS Pg:=FV.c TB
theorem Gp:FI.OK ⟨82,[.bool,q99,q99],[.u,q8h,q8h],λz=>(λ(neg:Bool)(n:Nat)(d:Nat)=>[0<d]) z.1 z.2.1 z.2.2,λb z=>(λ(neg:Bool)(n:Nat)(d:Nat)=>oA .rat (.n (max (Nat.log2 (b1 b).nb+1) (Nat.log2 (b2 b).nb+1))) (qg neg n d)) z.1 z.2.1 z.2.2⟩ Pg:=mF Tryz.func82 [(138,.cI q2R),(139,.s rlimbs_c)] (λ(neg:Bool)(n:Nat)(d:Nat) b hx hp=>v7 (qT (qd (q6Q _ _) (Ap (Bnds.h3 hx).2.1.nat)) (j0 (qd (q6R _ _) (Ap (Bnds.h3 hx).2.2.nat))) (hp _ q5Q))) (λ(neg:Bool)(n:Nat)(d:Nat) hx hp=>by
 have hx1:n<=18446744073709551615:=hx.2.1;have hx2:d<=18446744073709551615:=hx.2.2;have hp0:0<d:=hp _ (q5Q)
 refine⟨.cond .nil ((λ(g:Nat)=>(λ(n1:Nat)=>(λ(d1:Nat)=> .h 5 0 (.mk (.arr q98 q8J)) ((λ(a:Nat)=> .cond ((λ(b:Nat)=> .pre 11 (.frz 24 false [])<|.h 11 0 (.rat (qg neg n d) 64) .nil) (a+(nlw d1)))<|.pre 11 (.frz 24 false [])<|.h 11 0 (.rat (qg neg n d) 64) .nil) (nlw n1))) (d/g)) (n/g)) (Nat.gcd n d)),kX (q6K (λ(h1:n=0)=>(by rw[show n=0 by omega,EL]:0=qg neg n d)) λ(h2: ¬(n=0))=>(λ(g:Nat)(hg:g=Nat.gcd n d)=>have hg0:=(show 0<g from hg▸Nat.gcd_pos_of_pos_right _ hp0);Id2 (by omega:0<g) ((λ(n1:Nat)(hn1:n1=n/g)=>(λ(d1:Nat)(hd1:d1=d/g)=>have hn0:=(show 0<n1 from by rw[hn1,hg];exact Nat.div_pos (Nat.gcd_le_left _ (by omega)) (hg▸hg0));have hd0:=(show 0<d1 from by rw[hd1,hg];exact Nat.div_pos (Nat.gcd_le_right _ (by omega)) (hg▸hg0));have hn9:=(show n1<=18446744073709551615 from by rw[hn1];exact q6e (q65 _ _) hx1);have hd9:=(show d1<=18446744073709551615 from by rw[hd1];exact q6e (q65 _ _) hx2);I3 (by omega:2<=4) (by simp:0+2<=(List.replicate 4 (0:Nat)).length) (by omega:n1<=18446744073709551615) ((λ(a:Nat)(ha:a=nlw n1)=>have ha1:=(show 1<=a/\a<=2 from by rw[ha];exact Ma n1);have hL:=(show(vS (List.replicate 4 (0:Nat)) 0 n1).length=4 from Mn _ _ _);I2 (by omega:a<=4) (by omega:a=a) (q6K (λ(h3:1<d1)=>I5 (by omega:a<=4) (by omega:a<4) (by omega:2<=4-a) (by omega:a+2<=(vS (List.replicate 4 (0:Nat)) 0 n1).length) (by omega:d1<=18446744073709551615) ((λ(b:Nat)(hb:b=a+(nlw d1))=>have hb1:=Ma d1;have hL2:=(show(vS (vS (List.replicate 4 (0:Nat)) 0 n1) a d1).length=4 from(Mn _ _ _).trans hL);I6 (by omega:a<b) (by omega:b<=4) (by omega:b=b) (by omega:a<=(vS (vS (List.replicate 4 (0:Nat)) 0 n1) a d1).length) (by omega:a+(b-a)<=(vS (vS (List.replicate 4 (0:Nat)) 0 n1) a d1).length) ((ve (by omega) hp0).symm:neg=decide ((qg neg n d).num<0))<|I4 (by rw[jP hp0,<-hg,<-hn1];subst ha;first|exact MA hn0 hn9|exact Oc hn0 hn9:(vS (vS (List.replicate 4 (0:Nat)) 0 n1) a d1).take a=limbs ((qg neg n d).num.natAbs)) (by rw[(js hp0).2,<-hg,<-hd1,denL,if_neg (by omega)];subst hb ha;exact Y1 hd0 hd9:((vS (vS (List.replicate 4 (0:Nat)) 0 n1) a d1).drop a).take (b-a)=denL (qg neg n d).den) (by rw[jP hp0,<-hg,<-hn1];exact q6f hn9 (by decide):qM (qg neg n d).num.natAbs 64) (by rw[(js hp0).2,<-hg,<-hd1];exact q6e hd9 (by decide):le2 (qg neg n d).den 64) ((q6J (qg neg n d)))) (a+(nlw d1)) rfl)) λ(h4: ¬(1<d1))=>I6 (by omega:a<=(vS (List.replicate 4 (0:Nat)) 0 n1).length) ((ve (by omega) hp0).symm:neg=decide ((qg neg n d).num<0)) (by rw[jP hp0,<-hg,<-hn1];subst ha;first|exact MA hn0 hn9|exact Oc hn0 hn9:(vS (List.replicate 4 (0:Nat)) 0 n1).take a=limbs ((qg neg n d).num.natAbs)) (by rw[(js hp0).2,<-hg,<-hd1];omega:(qg neg n d).den=1) (by rw[jP hp0,<-hg,<-hn1];exact q6f hn9 (by decide):qM (qg neg n d).num.natAbs 64) (by rw[(js hp0).2,<-hg,<-hd1];exact q6e hd9 (by decide):le2 (qg neg n d).den 64) ((q6J (qg neg n d))))) (nlw n1) rfl)) (d/g) rfl) (n/g) rfl)) (Nat.gcd n d) rfl)⟩)
theorem Gd:FI.OK ⟨81,[.rat],[q8m],λ_=>[],λb z=>(λ(x:Rat)=> .tup [.one (.dt q99 q8J (pn x)),.one (.dt q99 q8J (pd x)),.one (.dt .bool .u (pb x))]) z⟩ Pg:=mF Tryz.func81 [(137,.cI O7)] (λ(x:Rat) b hx hp=>q9 (q8 (Ir x) rfl) (q9 (q8 (Iq x) rfl) (q9 (q8 trivial rfl) qr))) (λ(x:Rat) hx hp=>by
 refine⟨.nil,kX (Sp (1<(limbs x.num.natAbs).length) (λh1=>q6K ((Gb (by first|exact .inl (by assumption)|exact .inr (by assumption))).1:0=pn x) (q6K ((Gb (by first|exact .inl (by assumption)|exact .inr (by assumption))).2.1:0=pd x) ((Gb (by first|exact .inl (by assumption)|exact .inr (by assumption))).2.2:false=pb x))) λh2=>Sp (1<(denL x.den).length) (λh3=>q6K ((Gb (by first|exact .inl (by assumption)|exact .inr (by assumption))).1:0=pn x) (q6K ((Gb (by first|exact .inl (by assumption)|exact .inr (by assumption))).2.1:0=pd x) ((Gb (by first|exact .inl (by assumption)|exact .inr (by assumption))).2.2:false=pb x))) λh4=>have hs:=p_sm (x:=x) (by unfold bigQ;omega);Sp ((denL x.den).length=1) (λh5=>I2 (?_:0<(denL x.den).length) (?_:(limbs x.num.natAbs).length<=2) (q6K (hs.1:x.num.natAbs=pn x) (q6K (by have:=hs.2.1;have:= @Qm x.den (by omega);omega:(denL x.den).getD 0 0=pd x) (by rw[hs.2.2];have:= @Qm x.den (by omega);have:=x.den_nz;exact decide_eq_true (by omega):decide ((denL x.den).getD 0 0≠0)=pb x)))) λh6=>I (?_:(limbs x.num.natAbs).length<=2) (q6K (hs.1:x.num.natAbs=pn x) (q6K (by rw[<-hs.2.1];exact(CC x.den_nz (by omega)).symm:1=pd x) (by rw[hs.2.2]:true=pb x))))⟩<;>omega)
theorem CN:FI.OK ⟨83,[.bool,.mag,.mag],[.u,q8m,q8m],λ_=>[],λb z=>(λ(neg:Bool)(n:Nat)(d:Nat)=>oA .rat (.n (max (b1 b).nb (b2 b).nb)) (qg neg n d)) z.1 z.2.1 z.2.2⟩ Pg:=mF Tryz.func83 [(82,.cI Gp),(126,.cI Hx),(127,.cI Uo),(137,.cI O7),(140,.cI Ug),(141,.cI U2)] (λ(neg:Bool)(n:Nat)(d:Nat) b hx hp=>v7 (Hg (qd (q6Q _ _) (Bnds.h3 hx).2.1.mag) (qd (q6R _ _) (Bnds.h3 hx).2.2.mag))) (λ(neg:Bool)(n:Nat)(d:Nat) hx hp=>by
 have hx1:qM n 1099511627776:=hx.2.1;have hl1:(limbs n).length<=34359738369:=qq (q6b hx1);have hx2:qM d 1099511627776:=hx.2.2;have hl2:(limbs d).length<=34359738369:=qq (q6b hx2)
 refine⟨.cond .nil<|.cond .nil<|.cond (.cond .nil ((λ(g:Nat)=> .cond (.cond (.cond (.h 12 3 (.rat (qg neg n d) 1099511627776) .nil)<|.h 12 3 (.rat (qg neg n d) 1099511627776) .nil)<|.h 12 3 (.rat (qg neg n d) 1099511627776) .nil)<|.cond (.cond (.h 12 3 (.rat (qg neg n d) 1099511627776) .nil)<|.h 12 3 (.rat (qg neg n d) 1099511627776) .nil)<|.h 12 3 (.rat (qg neg n d) 1099511627776) .nil) (Nat.gcd n d))) ((λ(g:Nat)=> .cond (.cond (.cond (.h 12 3 (.rat (qg neg n d) 1099511627776) .nil)<|.h 12 3 (.rat (qg neg n d) 1099511627776) .nil)<|.h 12 3 (.rat (qg neg n d) 1099511627776) .nil)<|.cond (.cond (.h 12 3 (.rat (qg neg n d) 1099511627776) .nil)<|.h 12 3 (.rat (qg neg n d) 1099511627776) .nil)<|.h 12 3 (.rat (qg neg n d) 1099511627776) .nil) (Nat.gcd n d)),kX (q6K (λ(h1:bl n=0)=>(by first|rw[B3.1 (show bl n=0 by omega),EL]|rw[B3.1 (show bl d=0 by omega),E3]:0=qg neg n d)) λ(h2: ¬(bl n=0))=>q6K (λ(h3:bl d=0)=>(by first|rw[B3.1 (show bl n=0 by omega),EL]|rw[B3.1 (show bl d=0 by omega),E3]:0=qg neg n d)) λ(h4: ¬(bl d=0))=>have hn0:=(show 0<n from q6t (mt B3.2 (by omega)));have hd0:=(show 0<d from q6t (mt B3.2 (by omega)));q6K (λ(h5:(limbs n).length<=2)=>q6K (λ(h6:(limbs d).length<=2)=>I3 (by omega:(limbs n).length<=2) (by omega:(limbs d).length<=2) (by omega:0<d) ((q6J (qg neg n d)))) λ(h7: ¬((limbs d).length<=2))=>(λ(g:Nat)(hg:g=Nat.gcd n d)=>have hg0:=(show 0<g from hg▸Nat.gcd_pos_of_pos_right _ hd0);q6K (λ(h8:1<bl g)=>Id2 (by omega:0<g) (q6K (λ(h9:(limbs ((d/g)+0)).length=1)=>I (by omega:0<(limbs ((d/g)+0)).length) (q6K (λ(h10:(limbs ((d/g)+0)).getD 0 0=1)=>I5 ((ve hn0 hd0).symm:neg=decide ((qg neg n d).num<0)) (by rw[jP hd0,<-hg];first|rfl|rw[hg1,q67];rfl:(n/g)+0=(qg neg n d).num.natAbs) (by rw[(js hd0).2,<-hg];first|exact zL (by omega) (by omega)|(rw[hg1,q67];exact zL (by omega) (by omega)):(qg neg n d).den=1) ((qT (p:=1099511627776) (qd (by decide) hx1) (j0 (qd (by decide) hx2)) hd0).1:qM (qg neg n d).num.natAbs 1099511627776) ((qT (p:=1099511627776) (qd (by decide) hx1) (j0 (qd (by decide) hx2)) hd0).2:le2 (qg neg n d).den 1099511627776) ((q6J (qg neg n d)))) λ(h11: ¬((limbs ((d/g)+0)).getD 0 0=1))=>I5 ((ve hn0 hd0).symm:neg=decide ((qg neg n d).num<0)) (by rw[jP hd0,<-hg];first|rfl|rw[hg1,q67];rfl:(n/g)+0=(qg neg n d).num.natAbs) (zF (by rw[(js hd0).2,<-hg];first|rfl|rw[hg1,q67];rfl) (by omega):limbs ((d/g)+0)=denL (qg neg n d).den) ((qT (p:=1099511627776) (qd (by decide) hx1) (j0 (qd (by decide) hx2)) hd0).1:qM (qg neg n d).num.natAbs 1099511627776) ((qT (p:=1099511627776) (qd (by decide) hx1) (j0 (qd (by decide) hx2)) hd0).2:le2 (qg neg n d).den 1099511627776) ((q6J (qg neg n d))))) λ(h12: ¬((limbs ((d/g)+0)).length=1))=>I5 ((ve hn0 hd0).symm:neg=decide ((qg neg n d).num<0)) (by rw[jP hd0,<-hg];first|rfl|rw[hg1,q67];rfl:(n/g)+0=(qg neg n d).num.natAbs) (zF (by rw[(js hd0).2,<-hg];first|rfl|rw[hg1,q67];rfl) (by omega):limbs ((d/g)+0)=denL (qg neg n d).den) ((qT (p:=1099511627776) (qd (by decide) hx1) (j0 (qd (by decide) hx2)) hd0).1:qM (qg neg n d).num.natAbs 1099511627776) ((qT (p:=1099511627776) (qd (by decide) hx1) (j0 (qd (by decide) hx2)) hd0).2:le2 (qg neg n d).den 1099511627776) ((q6J (qg neg n d))))) λ(h13: ¬(1<bl g))=>have hg1:=(PV hg0 (by omega):g=1);q6K (λ(h14:(limbs (d+0)).length=1)=>I (by omega:0<(limbs (d+0)).length) (q6K (λ(h15:(limbs (d+0)).getD 0 0=1)=>I5 ((ve hn0 hd0).symm:neg=decide ((qg neg n d).num<0)) (by rw[jP hd0,<-hg];first|rfl|rw[hg1,q67];rfl:n+0=(qg neg n d).num.natAbs) (by rw[(js hd0).2,<-hg];first|exact zL (by omega) (by omega)|(rw[hg1,q67];exact zL (by omega) (by omega)):(qg neg n d).den=1) ((qT (p:=1099511627776) (qd (by decide) hx1) (j0 (qd (by decide) hx2)) hd0).1:qM (qg neg n d).num.natAbs 1099511627776) ((qT (p:=1099511627776) (qd (by decide) hx1) (j0 (qd (by decide) hx2)) hd0).2:le2 (qg neg n d).den 1099511627776) ((q6J (qg neg n d)))) λ(h16: ¬((limbs (d+0)).getD 0 0=1))=>I5 ((ve hn0 hd0).symm:neg=decide ((qg neg n d).num<0)) (by rw[jP hd0,<-hg];first|rfl|rw[hg1,q67];rfl:n+0=(qg neg n d).num.natAbs) (zF (by rw[(js hd0).2,<-hg];first|rfl|rw[hg1,q67];rfl) (by omega):limbs (d+0)=denL (qg neg n d).den) ((qT (p:=1099511627776) (qd (by decide) hx1) (j0 (qd (by decide) hx2)) hd0).1:qM (qg neg n d).num.natAbs 1099511627776) ((qT (p:=1099511627776) (qd (by decide) hx1) (j0 (qd (by decide) hx2)) hd0).2:le2 (qg neg n d).den 1099511627776) ((q6J (qg neg n d))))) λ(h17: ¬((limbs (d+0)).length=1))=>I5 ((ve hn0 hd0).symm:neg=decide ((qg neg n d).num<0)) (by rw[jP hd0,<-hg];first|rfl|rw[hg1,q67];rfl:n+0=(qg neg n d).num.natAbs) (zF (by rw[(js hd0).2,<-hg];first|rfl|rw[hg1,q67];rfl) (by omega):limbs (d+0)=denL (qg neg n d).den) ((qT (p:=1099511627776) (qd (by decide) hx1) (j0 (qd (by decide) hx2)) hd0).1:qM (qg neg n d).num.natAbs 1099511627776) ((qT (p:=1099511627776) (qd (by decide) hx1) (j0 (qd (by decide) hx2)) hd0).2:le2 (qg neg n d).den 1099511627776) ((q6J (qg neg n d)))) (Nat.gcd n d) rfl) λ(h18: ¬((limbs n).length<=2))=>(λ(g:Nat)(hg:g=Nat.gcd n d)=>have hg0:=(show 0<g from hg▸Nat.gcd_pos_of_pos_right _ hd0);q6K (λ(h19:1<bl g)=>Id2 (by omega:0<g) (q6K (λ(h20:(limbs ((d/g)+0)).length=1)=>I (by omega:0<(limbs ((d/g)+0)).length) (q6K (λ(h21:(limbs ((d/g)+0)).getD 0 0=1)=>I5 ((ve hn0 hd0).symm:neg=decide ((qg neg n d).num<0)) (by rw[jP hd0,<-hg];first|rfl|rw[hg1,q67];rfl:(n/g)+0=(qg neg n d).num.natAbs) (by rw[(js hd0).2,<-hg];first|exact zL (by omega) (by omega)|(rw[hg1,q67];exact zL (by omega) (by omega)):(qg neg n d).den=1) ((qT (p:=1099511627776) (qd (by decide) hx1) (j0 (qd (by decide) hx2)) hd0).1:qM (qg neg n d).num.natAbs 1099511627776) ((qT (p:=1099511627776) (qd (by decide) hx1) (j0 (qd (by decide) hx2)) hd0).2:le2 (qg neg n d).den 1099511627776) ((q6J (qg neg n d)))) λ(h22: ¬((limbs ((d/g)+0)).getD 0 0=1))=>I5 ((ve hn0 hd0).symm:neg=decide ((qg neg n d).num<0)) (by rw[jP hd0,<-hg];first|rfl|rw[hg1,q67];rfl:(n/g)+0=(qg neg n d).num.natAbs) (zF (by rw[(js hd0).2,<-hg];first|rfl|rw[hg1,q67];rfl) (by omega):limbs ((d/g)+0)=denL (qg neg n d).den) ((qT (p:=1099511627776) (qd (by decide) hx1) (j0 (qd (by decide) hx2)) hd0).1:qM (qg neg n d).num.natAbs 1099511627776) ((qT (p:=1099511627776) (qd (by decide) hx1) (j0 (qd (by decide) hx2)) hd0).2:le2 (qg neg n d).den 1099511627776) ((q6J (qg neg n d))))) λ(h23: ¬((limbs ((d/g)+0)).length=1))=>I5 ((ve hn0 hd0).symm:neg=decide ((qg neg n d).num<0)) (by rw[jP hd0,<-hg];first|rfl|rw[hg1,q67];rfl:(n/g)+0=(qg neg n d).num.natAbs) (zF (by rw[(js hd0).2,<-hg];first|rfl|rw[hg1,q67];rfl) (by omega):limbs ((d/g)+0)=denL (qg neg n d).den) ((qT (p:=1099511627776) (qd (by decide) hx1) (j0 (qd (by decide) hx2)) hd0).1:qM (qg neg n d).num.natAbs 1099511627776) ((qT (p:=1099511627776) (qd (by decide) hx1) (j0 (qd (by decide) hx2)) hd0).2:le2 (qg neg n d).den 1099511627776) ((q6J (qg neg n d))))) λ(h24: ¬(1<bl g))=>have hg1:=(PV hg0 (by omega):g=1);q6K (λ(h25:(limbs (d+0)).length=1)=>I (by omega:0<(limbs (d+0)).length) (q6K (λ(h26:(limbs (d+0)).getD 0 0=1)=>I5 ((ve hn0 hd0).symm:neg=decide ((qg neg n d).num<0)) (by rw[jP hd0,<-hg];first|rfl|rw[hg1,q67];rfl:n+0=(qg neg n d).num.natAbs) (by rw[(js hd0).2,<-hg];first|exact zL (by omega) (by omega)|(rw[hg1,q67];exact zL (by omega) (by omega)):(qg neg n d).den=1) ((qT (p:=1099511627776) (qd (by decide) hx1) (j0 (qd (by decide) hx2)) hd0).1:qM (qg neg n d).num.natAbs 1099511627776) ((qT (p:=1099511627776) (qd (by decide) hx1) (j0 (qd (by decide) hx2)) hd0).2:le2 (qg neg n d).den 1099511627776) ((q6J (qg neg n d)))) λ(h27: ¬((limbs (d+0)).getD 0 0=1))=>I5 ((ve hn0 hd0).symm:neg=decide ((qg neg n d).num<0)) (by rw[jP hd0,<-hg];first|rfl|rw[hg1,q67];rfl:n+0=(qg neg n d).num.natAbs) (zF (by rw[(js hd0).2,<-hg];first|rfl|rw[hg1,q67];rfl) (by omega):limbs (d+0)=denL (qg neg n d).den) ((qT (p:=1099511627776) (qd (by decide) hx1) (j0 (qd (by decide) hx2)) hd0).1:qM (qg neg n d).num.natAbs 1099511627776) ((qT (p:=1099511627776) (qd (by decide) hx1) (j0 (qd (by decide) hx2)) hd0).2:le2 (qg neg n d).den 1099511627776) ((q6J (qg neg n d))))) λ(h28: ¬((limbs (d+0)).length=1))=>I5 ((ve hn0 hd0).symm:neg=decide ((qg neg n d).num<0)) (by rw[jP hd0,<-hg];first|rfl|rw[hg1,q67];rfl:n+0=(qg neg n d).num.natAbs) (zF (by rw[(js hd0).2,<-hg];first|rfl|rw[hg1,q67];rfl) (by omega):limbs (d+0)=denL (qg neg n d).den) ((qT (p:=1099511627776) (qd (by decide) hx1) (j0 (qd (by decide) hx2)) hd0).1:qM (qg neg n d).num.natAbs 1099511627776) ((qT (p:=1099511627776) (qd (by decide) hx1) (j0 (qd (by decide) hx2)) hd0).2:le2 (qg neg n d).den 1099511627776) ((q6J (qg neg n d)))) (Nat.gcd n d) rfl)⟩)
theorem OL:FI.OK ⟨147,[q8z,q8z],[q86,q86],λ_=>[],λb z=>(λ(l:List Nat)(m:List Nat)=>oO .bool .u (decide (l=m))) z.1 z.2⟩ Pg:=mF Tryz.func147 [] (λ(l:List Nat)(m:List Nat) b hx hp=>q8 trivial rfl) (λ(l:List Nat)(m:List Nat) hx hp=>by
 have hl0:l.length<=1099511627776:=hx.1.1;have hl1:m.length<=1099511627776:=hx.2.1
 refine⟨.cond .nil<|.loop [.s 13 q97 q8m] (λ(i:Nat)=>i<=l.length/\l.take i=m.take i) (λ(i:Nat)=>l.length-i) λ(i:Nat)=> .nil,kX (Sp (l.length≠m.length) (λh1=>((decide_eq_false (by first|exact(IZ (by omega) hC.2 (by omega)).2 (by omega)|exact λe=>absurd (congrArg List.length e) (by assumption))).symm:false=decide (l=m))) λh2=>I (⟨q6A _,rfl⟩:0<=l.length/\l.take 0=m.take 0) λ(i:Nat)(hb3:HB [.s 13 q97 q8m] i)(hC:i<=l.length/\l.take i=m.take i)=>have hv8:=(show i<=1099511627776 from hb3);Sp (i<l.length) (λh4=>I2 (?_:i<l.length) (?_:i<m.length)<|Sp (l.getD i 0≠m.getD i 0) (λh5=>((decide_eq_false (by first|exact(IZ (by omega) hC.2 (by omega)).2 (by omega)|exact λe=>absurd (congrArg List.length e) (by assumption))).symm:false=decide (l=m))) λh6=>I (qy:Bnd q97 q8m (i+1)) (q6K (⟨by omega,(IZ (by omega) hC.2 (by omega)).1 (by omega)⟩:(i+1)<=l.length/\l.take (i+1)=m.take (i+1)) (?_:l.length-(i+1)<l.length-i))) λh7=>((decide_eq_true (by have:=hC.2;rwa [q5Z (by omega),q5Z (by omega)]at this)).symm:true=decide (l=m)))⟩<;>omega)
theorem Jq:FI.OK ⟨76,[.rat],[q8F],λ_=>[],λb z=>(λ(x:Rat)=>oO q91 q9q (jf x)) z⟩ Pg:=mF Tryz.func76 [(126,.cI Hx)] (λ(x:Rat) b hx hp=>q8 (Mz x) rfl) (λ(x:Rat) hx hp=>by
 refine⟨.nil,kX (Sp (bl x.num.natAbs=0) (λh1=>(by rw[jf,if_pos (B3.1 (by omega))]:0=jf x)) λh2=>Sp (x.num<0) (λh3=>(by rw[jf,if_neg λe=>absurd (B3.2 e) (by omega),if_pos (by assumption)]:(-1)=jf x)) λh4=>(by rw[jf,if_neg λe=>absurd (B3.2 e) (by omega),if_neg (by assumption)]:1=jf x))⟩)
theorem Ag:FI.OK ⟨99,[q91],[(.n 9223372036854775807)],λ_=>[],λb z=>(λ(v:Int)=>oA .rat (.n (Nat.log2 (b0 b).nb+1)) ((v:Rat))) z⟩ Pg:=mF Tryz.func99 [(83,.cI CN),(143,.cI RT),(156,.cI O5)] (λ(v:Int) b hx hp=>v7 (DQ (Bnds.h1 hx).int)) (λ(v:Int) hx hp=>by
 refine⟨.nil,kX ((O9 v:qg (decide (v<0)) v.natAbs 1=(v:Rat)))⟩)
theorem j8:FI.OK ⟨37,[.rat,.rat],[q8F,q8F],λ_=>[],λb z=>(λ(x:Rat)(y:Rat)=>oA .rat (.n ((b0 b).nb+(b1 b).nb)) (x*y)) z.1 z.2⟩ Pg:=mF Tryz.func37 [(81,.cI Gd),(82,.cI Gp),(83,.cI CN),(84,.cI KO),(85,.cI Fk)] (λ(x:Rat)(y:Rat) b hx hp=>v7 (DA (Bnds.h2 hx).1 (Bnds.h2 hx).2)) (λ(x:Rat)(y:Rat) hx hp=>by
 refine⟨.nil,kX (Sp ((limbs x.num.natAbs).length=0) (λh1=>(?_:0=x*y)) λh2=>Sp ((limbs y.num.natAbs).length=0) (λh3=>(?_:0=x*y)) λh4=>Sp (pb x=true) (λh5=>Sp (pb y=true) (λh6=>have hpx:=Di (x:=x) (by assumption);have hpy:=Di (x:=y) (by assumption);I (q6s hpx.2.2 hpy.2.2:0<(pd x)*(pd y)) ((?_:qg (decide ((decide (x.num<0))≠(decide (y.num<0)))) ((pn x)*(pn y)) ((pd x)*(pd y))=x*y))) λh7=>(?_:qg (decide ((decide (x.num<0))≠(decide (y.num<0)))) (x.num.natAbs*y.num.natAbs) (x.den*y.den)=x*y)) λh8=>(?_:qg (decide ((decide (x.num<0))≠(decide (y.num<0)))) (x.num.natAbs*y.num.natAbs) (x.den*y.den)=x*y))⟩<;>first|(first|rw[Ae (nl0.1 (show(limbs x.num.natAbs).length=0 by omega)),Rat.zero_mul]|rw[Ae (nl0.1 (show(limbs y.num.natAbs).length=0 by omega)),Rat.mul_zero])|(first|exact Gh x y|(rw[hpx.1,hpy.1,hpx.2.1,hpy.2.1];exact Gh x y)))
def U1:Array Value->Sem Value:=λargs=>do
 let(x,y,c)<-Extern.MathBitsCarry.three "Add64" args
 pure (Extern.MathBitsCarry.pair ((x+y+c)%Extern.MathBitsCarry.m64) ((x+y+c)/Extern.MathBitsCarry.m64))
theorem SK:Extern.findNext Tryz.f195=none:=by kernel_rfl
theorem WE:Extern.find Tryz.f195=some U1:=by kernel_rfl
theorem RU(a b:Nat)(w:World):(U1 #[.int .u64 (a:Int),.int .u64 (b:Int),.int .u64 0]).run Pg w= .ok (Extern.MathBitsCarry.pair ((a+b)%18446744073709551616) ((a+b)/18446744073709551616)) w:=by
 kernel_rfl
theorem Td{fx x y z:Operand}{ts:Array TypeId}{ty:TypeId}{a b:Nat}:
  OpOk Pg (.call {callee:= .value fx,args:= #[x,y,z],argTypes:=ts}) ty [(fx,vFun 195),(x,qo .u64 a),(y,qo .u64 b),(z,qo .u64 0)] []
   (.tup [.one (.val (.int .u64 (((a+b)%18446744073709551616:Nat):Int))),.one (.val (.int .u64 (((a+b)/18446744073709551616:Nat):Int)))]) []:=
 qP λac w H β hins _ _=>by
  have hf:=(hins (fx,vFun 195) (by simp)).1;have hx:=(hins (x,qo .u64 a) (by simp)).1;have hy:=(hins (y,qo .u64 b) (by simp)).1;have hz:=(hins (z,qo .u64 0) (by simp)).1;simp only at hf hx hy hz;refine⟨Extern.MathBitsCarry.pair ((a+b)%18446744073709551616) ((a+b)/18446744073709551616),?_,λ_ _ _ _=>?_⟩
  .exact⟨_,rfl,⟨⟨rfl,rfl⟩,⟨⟨rfl,rfl⟩,trivial⟩⟩⟩
  .have hb: Tryz.f195.body.isNone=true:=by kernel_rfl
   have hn:(Tryz.f195.name== "runtime.NumGoroutine")=false:=by kernel_rfl
   simp only[execOp,resolve,hf,Deferred.ofValue,q6H,q6I,q6G,invoke,callFunc,run_program,Tryz.func195,hb,hn,q5n,if_false,if_true,SK,WE];rw[show(#[]++Array.map ac.eval #[x,y,z]++ #[]:Array Value)= #[.int .u64 (a:Int),.int .u64 (b:Int),.int .u64 0] by simp[hx,hy,hz]];rw[show Sem.run Pg (mark (Mark.extern 195)) w= .ok () w from rfl];simp only[q6G,RU]
theorem RG:FI.OK ⟨136,[.rat,.rat,.bool],[q8F,q8F,.u],λ_=>[],λb z=>(λ(x:Rat)(y:Rat)(s:Bool)=>oA .rat (.n ((b0 b).nb+(b1 b).nb+1)) (x+yQ s y)) z.1 z.2.1 z.2.2⟩ Pg:=mF Tryz.func136 [(81,.cI Gd),(82,.cI Gp),(83,.cI CN),(84,.cI KO),(85,.cI Fk),(141,.cI U2),(147,.cI OL),(196,.cI q56)] (λ(x:Rat)(y:Rat)(s:Bool) b hx hp=>v7 (IT (Bnds.h3 hx).1 (Bnds.h3 hx).2.1)) (λ(x:Rat)(y:Rat)(s:Bool) hx hp=>by
 refine⟨.cond (.cond (.h 6 2 (.any [.c (.one (.vl (.func (.func 195) #[] #[]))),oO q99 q8g ((pn x)*(pd y)),oO q99 q8g ((pn y)*(pd x)),.c (.one (.kn .u64 0))] (.tup [(.one (.dt q99 q8h ((((pn x)*(pd y))+((pn y)*(pd x)))%18446744073709551616))),(.one (.dt q99 q9q (cy ((pn x)*(pd y)) ((pn y)*(pd x)))))]) (q9 (q8 (q6c (q6k _ (by decide))) rfl) (q9 (q8 (q3H (q6p (Ir x) (Iq y)) (q6p (Ir y) (Iq x))) rfl) qr)) (Op.call {callee:= .value (.func 195),args:= #[.tmp 43,.tmp 44,.const (.int .u64 0)],argTypes:= #[129,129,129]}) λ_=>Td (a:=(pn x)*(pd y)) (b:=(pn y)*(pd x)))<|.cond (.cond .nil<|.cond (.cond (.h 10 4 (.i .sub) .nil)<|.cond (.h 12 3 (.i .sub) .nil) .nil)<|.cond (.h 12 3 (.i .sub) .nil) .nil)<|.cond (.cond (.h 10 4 (.i .sub) .nil)<|.cond (.h 12 3 (.i .sub) .nil) .nil)<|.cond (.h 12 3 (.i .sub) .nil) .nil) .nil) .nil,kX (Sp (pb x=true) (λh1=>Sp (pb y=true) (λh2=>have hpx:=Di (x:=x) (by assumption);have hpy:=Di (x:=y) (by assumption);have hx8:=Ir x;have hx9:=Iq x;have hy8:=Ir y;have hy9:=Iq y;have hm1:=q6p hx8 hy9;have hm2:=q6p hy8 hx9;have hpp:=q6s hpx.2.2 hpy.2.2;I2 (rfl:([.c (.one (.vl (.func (.func 195) #[] #[]))),oO q99 q8g ((pn x)*(pd y)),oO q99 q8g ((pn y)*(pd x)),.c (.one (.kn .u64 0))]:List WV)=[.c (.one (.vl (.func (.func 195) #[] #[]))),oO q99 q8g ((pn x)*(pd y)),oO q99 q8g ((pn y)*(pd x)),.c (.one (.kn .u64 0))]) (rfl:(Op.call {callee:= .value (.func 195),args:= #[.tmp 43,.tmp 44,.const (.int .u64 0)],argTypes:= #[129,129,129]}:Op)=Op.call {callee:= .value (.func 195),args:= #[.tmp 43,.tmp 44,.const (.int .u64 0)],argTypes:= #[129,129,129]})<|Sp ((decide (x.num<0))=s) (λh3=>Sp (cy ((pn x)*(pd y)) ((pn y)*(pd x))=0) (λh4=>I (hpp:0<(pd x)*(pd y)) ((?_:qg s ((((pn x)*(pd y))+((pn y)*(pd x)))%18446744073709551616) ((pd x)*(pd y))=x+yQ s y))) λh5=>Sp ((decide (x.num<0))≠s) (λh6=>Sp ((pn y)*(pd x)<=(pn x)*(pd y)) (λh7=>I2 (by first|omega|contradiction:(pn y)*(pd x)<=(pn x)*(pd y)) (hpp:0<(pd x)*(pd y)) ((?_:qg (decide (x.num<0)) (((pn x)*(pd y)) -((pn y)*(pd x))) ((pd x)*(pd y))=x+yQ s y))) λh8=>Sp ((decide (x.num<0))≠s) (λh9=>I2 (by first|omega|contradiction:(pn x)*(pd y)<=(pn y)*(pd x)) (hpp:0<(pd x)*(pd y)) ((?_:qg s (((pn y)*(pd x)) -((pn x)*(pd y))) ((pd x)*(pd y))=x+yQ s y))) λh10=>Sp ((!(decide ((denL x.den)=(denL y.den))))=true) (λh11=>Sp ((decide (x.num<0))=s) (λh12=>(?_:qg s ((x.num.natAbs*y.den)+(y.num.natAbs*x.den)) (x.den*y.den)=x+yQ s y)) λh13=>Sp (subC (x.num.natAbs*y.den) (y.num.natAbs*x.den)=0) (λh14=>(?_:qg (decide (x.num<0)) ((x.num.natAbs*y.den) -(y.num.natAbs*x.den)) (x.den*y.den)=x+yQ s y)) λh15=>(?_:qg s ((y.num.natAbs*x.den) -(x.num.natAbs*y.den)) (x.den*y.den)=x+yQ s y)) λh16=>have hde:=(show x.den=y.den from wI x.den_nz y.den_nz (by have h:=h16;simpa using h));Sp ((decide (x.num<0))=s) (λh17=>(?_:qg s (x.num.natAbs+y.num.natAbs) x.den=x+yQ s y)) λh18=>Sp (subC x.num.natAbs y.num.natAbs=0) (λh19=>(?_:qg (decide (x.num<0)) (x.num.natAbs-y.num.natAbs) x.den=x+yQ s y)) λh20=>(?_:qg s (y.num.natAbs-x.num.natAbs) x.den=x+yQ s y)) λh21=>Sp ((decide (x.num<0))≠s) (λh22=>I2 (by first|omega|contradiction:(pn x)*(pd y)<=(pn y)*(pd x)) (hpp:0<(pd x)*(pd y)) ((?_:qg s (((pn y)*(pd x)) -((pn x)*(pd y))) ((pd x)*(pd y))=x+yQ s y))) λh23=>Sp ((!(decide ((denL x.den)=(denL y.den))))=true) (λh24=>Sp ((decide (x.num<0))=s) (λh25=>(?_:qg s ((x.num.natAbs*y.den)+(y.num.natAbs*x.den)) (x.den*y.den)=x+yQ s y)) λh26=>Sp (subC (x.num.natAbs*y.den) (y.num.natAbs*x.den)=0) (λh27=>(?_:qg (decide (x.num<0)) ((x.num.natAbs*y.den) -(y.num.natAbs*x.den)) (x.den*y.den)=x+yQ s y)) λh28=>(?_:qg s ((y.num.natAbs*x.den) -(x.num.natAbs*y.den)) (x.den*y.den)=x+yQ s y)) λh29=>have hde:=(show x.den=y.den from wI x.den_nz y.den_nz (by have h:=h29;simpa using h));Sp ((decide (x.num<0))=s) (λh30=>(?_:qg s (x.num.natAbs+y.num.natAbs) x.den=x+yQ s y)) λh31=>Sp (subC x.num.natAbs y.num.natAbs=0) (λh32=>(?_:qg (decide (x.num<0)) (x.num.natAbs-y.num.natAbs) x.den=x+yQ s y)) λh33=>(?_:qg s (y.num.natAbs-x.num.natAbs) x.den=x+yQ s y)) λh34=>Sp ((decide (x.num<0))≠s) (λh35=>Sp ((pn y)*(pd x)<=(pn x)*(pd y)) (λh36=>I2 (by first|omega|contradiction:(pn y)*(pd x)<=(pn x)*(pd y)) (hpp:0<(pd x)*(pd y)) ((?_:qg (decide (x.num<0)) (((pn x)*(pd y)) -((pn y)*(pd x))) ((pd x)*(pd y))=x+yQ s y))) λh37=>Sp ((decide (x.num<0))≠s) (λh38=>I2 (by first|omega|contradiction:(pn x)*(pd y)<=(pn y)*(pd x)) (hpp:0<(pd x)*(pd y)) ((?_:qg s (((pn y)*(pd x)) -((pn x)*(pd y))) ((pd x)*(pd y))=x+yQ s y))) λh39=>Sp ((!(decide ((denL x.den)=(denL y.den))))=true) (λh40=>Sp ((decide (x.num<0))=s) (λh41=>(?_:qg s ((x.num.natAbs*y.den)+(y.num.natAbs*x.den)) (x.den*y.den)=x+yQ s y)) λh42=>Sp (subC (x.num.natAbs*y.den) (y.num.natAbs*x.den)=0) (λh43=>(?_:qg (decide (x.num<0)) ((x.num.natAbs*y.den) -(y.num.natAbs*x.den)) (x.den*y.den)=x+yQ s y)) λh44=>(?_:qg s ((y.num.natAbs*x.den) -(x.num.natAbs*y.den)) (x.den*y.den)=x+yQ s y)) λh45=>have hde:=(show x.den=y.den from wI x.den_nz y.den_nz (by have h:=h45;simpa using h));Sp ((decide (x.num<0))=s) (λh46=>(?_:qg s (x.num.natAbs+y.num.natAbs) x.den=x+yQ s y)) λh47=>Sp (subC x.num.natAbs y.num.natAbs=0) (λh48=>(?_:qg (decide (x.num<0)) (x.num.natAbs-y.num.natAbs) x.den=x+yQ s y)) λh49=>(?_:qg s (y.num.natAbs-x.num.natAbs) x.den=x+yQ s y)) λh50=>Sp ((decide (x.num<0))≠s) (λh51=>I2 (by first|omega|contradiction:(pn x)*(pd y)<=(pn y)*(pd x)) (hpp:0<(pd x)*(pd y)) ((?_:qg s (((pn y)*(pd x)) -((pn x)*(pd y))) ((pd x)*(pd y))=x+yQ s y))) λh52=>Sp ((!(decide ((denL x.den)=(denL y.den))))=true) (λh53=>Sp ((decide (x.num<0))=s) (λh54=>(?_:qg s ((x.num.natAbs*y.den)+(y.num.natAbs*x.den)) (x.den*y.den)=x+yQ s y)) λh55=>Sp (subC (x.num.natAbs*y.den) (y.num.natAbs*x.den)=0) (λh56=>(?_:qg (decide (x.num<0)) ((x.num.natAbs*y.den) -(y.num.natAbs*x.den)) (x.den*y.den)=x+yQ s y)) λh57=>(?_:qg s ((y.num.natAbs*x.den) -(x.num.natAbs*y.den)) (x.den*y.den)=x+yQ s y)) λh58=>have hde:=(show x.den=y.den from wI x.den_nz y.den_nz (by have h:=h58;simpa using h));Sp ((decide (x.num<0))=s) (λh59=>(?_:qg s (x.num.natAbs+y.num.natAbs) x.den=x+yQ s y)) λh60=>Sp (subC x.num.natAbs y.num.natAbs=0) (λh61=>(?_:qg (decide (x.num<0)) (x.num.natAbs-y.num.natAbs) x.den=x+yQ s y)) λh62=>(?_:qg s (y.num.natAbs-x.num.natAbs) x.den=x+yQ s y)) λh63=>Sp ((!(decide ((denL x.den)=(denL y.den))))=true) (λh64=>Sp ((decide (x.num<0))=s) (λh65=>(?_:qg s ((x.num.natAbs*y.den)+(y.num.natAbs*x.den)) (x.den*y.den)=x+yQ s y)) λh66=>Sp (subC (x.num.natAbs*y.den) (y.num.natAbs*x.den)=0) (λh67=>(?_:qg (decide (x.num<0)) ((x.num.natAbs*y.den) -(y.num.natAbs*x.den)) (x.den*y.den)=x+yQ s y)) λh68=>(?_:qg s ((y.num.natAbs*x.den) -(x.num.natAbs*y.den)) (x.den*y.den)=x+yQ s y)) λh69=>have hde:=(show x.den=y.den from wI x.den_nz y.den_nz (by have h:=h69;simpa using h));Sp ((decide (x.num<0))=s) (λh70=>(?_:qg s (x.num.natAbs+y.num.natAbs) x.den=x+yQ s y)) λh71=>Sp (subC x.num.natAbs y.num.natAbs=0) (λh72=>(?_:qg (decide (x.num<0)) (x.num.natAbs-y.num.natAbs) x.den=x+yQ s y)) λh73=>(?_:qg s (y.num.natAbs-x.num.natAbs) x.den=x+yQ s y)) λh74=>Sp ((!(decide ((denL x.den)=(denL y.den))))=true) (λh75=>Sp ((decide (x.num<0))=s) (λh76=>(?_:qg s ((x.num.natAbs*y.den)+(y.num.natAbs*x.den)) (x.den*y.den)=x+yQ s y)) λh77=>Sp (subC (x.num.natAbs*y.den) (y.num.natAbs*x.den)=0) (λh78=>(?_:qg (decide (x.num<0)) ((x.num.natAbs*y.den) -(y.num.natAbs*x.den)) (x.den*y.den)=x+yQ s y)) λh79=>(?_:qg s ((y.num.natAbs*x.den) -(x.num.natAbs*y.den)) (x.den*y.den)=x+yQ s y)) λh80=>have hde:=(show x.den=y.den from wI x.den_nz y.den_nz (by have h:=h80;simpa using h));Sp ((decide (x.num<0))=s) (λh81=>(?_:qg s (x.num.natAbs+y.num.natAbs) x.den=x+yQ s y)) λh82=>Sp (subC x.num.natAbs y.num.natAbs=0) (λh83=>(?_:qg (decide (x.num<0)) (x.num.natAbs-y.num.natAbs) x.den=x+yQ s y)) λh84=>(?_:qg s (y.num.natAbs-x.num.natAbs) x.den=x+yQ s y))⟩<;>first|(first|contradiction|skip;rw[hpx.1,hpx.2.1,hpy.1,hpy.2.1]at*;first|(rw[q11 (by assumption)];exact Ct (by assumption))|exact Cr (by assumption) (by assumption)|exact Cs (by assumption) (by omega))|(first|contradiction|exact Vk hde (by assumption)|exact Vi hde (by assumption) (IE.1 (by assumption))|exact Vj hde (by assumption) (q6b (Nat.lt_of_not_le (mt IE.2 (by assumption))))|exact Ct (by assumption)|exact Cr (by assumption) (IE.1 (by assumption))|exact Cs (by assumption) (q6b (Nat.lt_of_not_le (mt IE.2 (by assumption))))))
theorem qv:FI.OK ⟨100,[.rat,.rat],[q8F,q8F],λ_=>[],λb z=>(λ(x:Rat)(y:Rat)=>oA .rat (.n ((b0 b).nb+(b1 b).nb+1)) (x+y)) z.1 z.2⟩ Pg:=mF Tryz.func100 [(136,.cI RG)] (λ(x:Rat)(y:Rat) b hx hp=>v7 (GJ (Bnds.h2 hx).1 (Bnds.h2 hx).2)) (λ(x:Rat)(y:Rat) hx hp=>by
 refine⟨.nil,kX ((by rw[E8]:x+yQ (decide (y.num<0)) y=x+y))⟩)
theorem jB:FI.OK ⟨79,[.rat,.rat],[q8F,q8F],λ_=>[],λb z=>(λ(x:Rat)(y:Rat)=>oA .rat (.n ((b0 b).nb+(b1 b).nb+1)) (x-y)) z.1 z.2⟩ Pg:=mF Tryz.func79 [(136,.cI RG)] (λ(x:Rat)(y:Rat) b hx hp=>v7 (CR (Bnds.h2 hx).1 (Bnds.h2 hx).2)) (λ(x:Rat)(y:Rat) hx hp=>by
 refine⟨.nil,kX ((by rw[show decide (¬(y.num<0))=!decide (y.num<0)from decide_not,Sr,Rat.sub_eq_add_neg]:x+yQ (decide (¬(y.num<0))) y=x-y))⟩)
theorem Ka:FI.OK ⟨91,[.rat],[q8m],λ_=>[],λb z=>(λ(x:Rat)=>oA .rat (b0 b) x) z⟩ Pg:=mF Tryz.func91 [(92,.c Eh)] (λ(x:Rat) b hx hp=>v7 (Bnds.h1 hx)) (λ(x:Rat) hx hp=>by
 have hx0:Bnd .rat q8m x:=hx
 refine⟨.h 1 7 (.c Cy)<|.h 1 8 (.rat x 1099511627776) .nil,kX (I5 (q6J (decide (x.num<0))) (q6J x.num.natAbs) (q6J (denL x.den)) (hx0.1:qM x.num.natAbs 1099511627776) (hx0.2:le2 x.den 1099511627776) ((q6J x)))⟩)
theorem XG:FI.OK ⟨78,[.rat],[q8F],λ_=>[],λb z=>(λ(x:Rat)=>oO q91 (.n ((b0 b).nb+((b0 b).nb+1))) (max ((bl x.num.natAbs:Nat):Int) ((bl x.den:Nat):Int))) z⟩ Pg:=mF Tryz.func78 [(85,.cI Fk),(126,.cI Hx)] (λ(x:Rat) b hx hp=>q8 (RK (Bnds.h1 hx)) rfl) (λ(x:Rat) hx hp=>by
 refine⟨.nil,kX ((q6J (max ((bl x.num.natAbs:Nat):Int) ((bl x.den:Nat):Int))))⟩)
theorem wW:FI.OK ⟨80,[.rat,.rat],[q8F,q8F],λ_=>[],λb z=>(λ(x:Rat)(y:Rat)=> .tup [.agg [.dt .rat (.n ((b0 b).nb+(b1 b).nb)) (x/y)],.one (.dt q91 q9s (quoC y))]) z.1 z.2⟩ Pg:=mF Tryz.func80 [(76,.cI Jq),(81,.cI Gd),(82,.cI Gp),(83,.cI CN),(84,.cI KO),(85,.cI Fk)] (λ(x:Rat)(y:Rat) b hx hp=>q9 (v7 (Cm (Bnds.h2 hx).1 (Bnds.h2 hx).2)) (q9 (q8 (RF y) rfl) qr)) (λ(x:Rat)(y:Rat) hx hp=>by
 refine⟨.nil,kX (Sp (jf y=0) (λh1=>q6K (UY (My.1 (by assumption)):0=x/y) ((if_pos (My.1 (by assumption))).symm:3=quoC y)) λh2=>have hy0:=mt My.2 (by assumption);Sp (pb x=true) (λh3=>Sp (pb y=true) (λh4=>have hpx:=Di (x:=x) (by assumption);have hpy:=Di (x:=y) (by assumption);I (q6s hpx.2.2 (hpy.1▸q6t hy0):0<(pd x)*(pn y)) (q6K (?_:qg (decide ((decide (x.num<0))≠(decide (y.num<0)))) ((pn x)*(pd y)) ((pd x)*(pn y))=x/y) ((if_neg hy0).symm:0=quoC y))) λh5=>q6K (?_:qg (decide ((decide (x.num<0))≠(decide (y.num<0)))) (x.num.natAbs*y.den) (x.den*y.num.natAbs)=x/y) ((if_neg hy0).symm:0=quoC y)) λh6=>q6K (?_:qg (decide ((decide (x.num<0))≠(decide (y.num<0)))) (x.num.natAbs*y.den) (x.den*y.num.natAbs)=x/y) ((if_neg hy0).symm:0=quoC y))⟩<;>first|(first|exact Fi hy0|(rw[hpx.1,hpy.1,hpx.2.1,hpy.2.1];exact Fi hy0)))
theorem jZ:FI.OK ⟨88,[.rat,.rat],[q8F,q8F],λ_=>[],λb z=>(λ(x:Rat)(y:Rat)=>oO q91 q9q (qL x y)) z.1 z.2⟩ Pg:=mF Tryz.func88 [(76,.cI Jq),(81,.cI Gd),(84,.cI KO),(85,.cI Fk),(147,.cI OL),(148,.cI OJ)] (λ(x:Rat)(y:Rat) b hx hp=>q8 (LD x y) rfl) (λ(x:Rat)(y:Rat) hx hp=>by
 refine⟨.nil,kX (Sp (jf x≠jf y) (λh1=>Sp (jf x<jf y) (λh2=>(?_:(-1)=qL x y)) λh3=>(?_:1=qL x y)) λh4=>have hs:=(show jf x=jf y by omega);Sp (decide ((denL x.den)=(denL y.den))=true) (λh5=>have hde:=(show x.den=y.den from wI x.den_nz y.den_nz (by have h:=h5;simpa using h));Sp (x.num<0) (λh6=>(?_: -(j3 x.num.natAbs y.num.natAbs)=qL x y)) λh7=>(?_:j3 x.num.natAbs y.num.natAbs=qL x y)) λh8=>Sp (pb x=true) (λh9=>Sp (pb y=true) (λh10=>have hpx:=Di (x:=x) (by assumption);have hpy:=Di (x:=y) (by assumption);Sp ((pn x)*(pd y)<(pn y)*(pd x)) (λh11=>Sp (x.num<0) (λh12=>(?_:1=qL x y)) λh13=>(?_:(-1)=qL x y)) λh14=>Sp ((pn y)*(pd x)<(pn x)*(pd y)) (λh15=>Sp (x.num<0) (λh16=>(?_:(-1)=qL x y)) λh17=>(?_:1=qL x y)) λh18=>Sp (x.num<0) (λh19=>(?_:0=qL x y)) λh20=>(?_:0=qL x y)) λh21=>Sp (x.num<0) (λh22=>(?_: -(j3 (x.num.natAbs*y.den) (y.num.natAbs*x.den))=qL x y)) λh23=>(?_:j3 (x.num.natAbs*y.den) (y.num.natAbs*x.den)=qL x y)) λh24=>Sp (x.num<0) (λh25=>(?_: -(j3 (x.num.natAbs*y.den) (y.num.natAbs*x.den))=qL x y)) λh26=>(?_:j3 (x.num.natAbs*y.den) (y.num.natAbs*x.den)=qL x y))⟩<;>first|(first|exact((FP (by assumption)).1 (by assumption)).symm|exact((FP (by assumption)).2 (by assumption)).symm|(rw[Nw hs (by assumption)];first|exact Ej hde|exact congrArg Neg.neg (Ej hde)|rfl|(rw[Qg hpx hpy];unfold j3;split<;>(try split)<;>first|rfl|omega))|(rw[Nx hs (by assumption)];first|exact Ej hde|exact congrArg Neg.neg (Ej hde)|rfl|(rw[Qg hpx hpy];unfold j3;split<;>(try split)<;>first|rfl|omega))))
theorem Au:FI.OK ⟨129,[.rat,.rat],[q8m,q8m],λ_=>[],λb z=>(λ(x:Rat)(y:Rat)=>oO .bool .u (decide (x=y))) z.1 z.2⟩ Pg:=mF Tryz.func129 [(147,.cI OL)] (λ(x:Rat)(y:Rat) b hx hp=>q8 trivial rfl) (λ(x:Rat)(y:Rat) hx hp=>by
 refine⟨.nil,kX (Sp ((decide (x.num<0))=(decide (y.num<0))) (λh1=>Sp (decide ((limbs x.num.natAbs)=(limbs y.num.natAbs))=true) (λh2=>(?_:decide ((denL x.den)=(denL y.den))=decide (x=y))) λh3=>(?_:false=decide (x=y))) λh4=>(?_:false=decide (x=y)))⟩<;>first|(first|exact q4Z (by assumption)|exact q50 (by assumption)|exact q51 (by assumption) (by assumption)))
theorem q2V:FI.OK ⟨244,[.rat,.rat],[q8F,q8F],λ_=>[],λb z=>(λ(x:Rat)(y:Rat)=>oA .rat (.n (max (b0 b).nb (b1 b).nb)) (minQ x y)) z.1 z.2⟩ Pg:=mF Tryz.func244 [(88,.cI jZ),(91,.cI Ka)] (λ(x:Rat)(y:Rat) b hx hp=>v7 (M6 (Bnds.h2 hx).1 (Bnds.h2 hx).2)) (λ(x:Rat)(y:Rat) hx hp=>by
 refine⟨.nil,kX (Sp (qL y x<0) (λh1=>(?_:y=minQ x y)) λh2=>(?_:x=minQ x y))⟩<;>first|(first|exact(if_pos (by assumption)).symm|exact(if_neg (by assumption)).symm))
theorem E0:FI.OK ⟨40,[.rat,.rat],[q8F,q8F],λ_=>[],λb z=>(λ(x:Rat)(y:Rat)=>oA .rat (.n (max (b0 b).nb (b1 b).nb)) (maxQ x y)) z.1 z.2⟩ Pg:=mF Tryz.func40 [(88,.cI jZ),(91,.cI Ka)] (λ(x:Rat)(y:Rat) b hx hp=>v7 (CJ (Bnds.h2 hx).1 (Bnds.h2 hx).2)) (λ(x:Rat)(y:Rat) hx hp=>by
 refine⟨.nil,kX (Sp (0<qL y x) (λh1=>(?_:y=maxQ x y)) λh2=>(?_:x=maxQ x y))⟩<;>first|(first|exact(if_pos (by assumption)).symm|exact(if_neg (by assumption)).symm))
theorem q1N(kk:List Rat)(hx:Bnds [q9e] [q8b] kk): ∃an,Hold (wp (P:=Pg) ⟨[(79,.cI jB),(100,.cI qv),(200,.cI D0)],26,[]⟩ (.seq (cR0 (Tryz.f144.body.getD .skip)) (.seq (cR1 (Tryz.f144.body.getD .skip)) (cR2 (Tryz.f144.body.getD .skip)))) an (jM (jh [q9e] [q8b] kk) []) λan e st=>wpre ⟨[(79,.cI jB),(100,.cI qv),(200,.cI D0)],26,[]⟩ 999999 an st λ_ st=>e= .normal/\hasM [(1,(.c (.one (.ip q9e q8b kk 0)))),(3,(.c (.one (.loc 3 0)))),(7,(oO (.cl 230 q9e) q8b kk))] st/\hasL [(3,(.rig [(.vl (.slice none 0 0))]))] st):=by
 refine⟨.pre 999999 (.ex (frzP 1 q9e q8b [1])) .nil,kX (q6K (q6J Exit.normal) (q6K (q6K (q6J (some ((.c (.one (.ip q9e q8b kk 0))):WV))) (q6K (q6J (some ((.c (.one (.loc 3 0))):WV))) (q6K (q6J (some ((oO (.cl 230 q9e) q8b kk):WV))) True.intro))) (q6K (q6J (some ((.rig [(.vl (.slice none 0 0))]):WB))) True.intro)))⟩
theorem q1K(kk:List Rat)(hx:Bnds [q9e] [q8b] kk)(l:List (Rat))(y:Rat)(hl:l.length<=1048576)(hy:y∈kk): ∃an,Hold (wp (P:=Pg) ⟨[(79,.cI jB),(100,.cI qv),(200,.cI D0)],26,[100003,199999]⟩ (cA (Tryz.f144.body.getD .skip)) an (stW [(9,(.c (.agg [(.dt .rat q8A y)]))),(1,(.c (.one (.ip q9e q8b kk 0)))),(3,(.c (.one (.loc 100003 0)))),(7,(oO (.cl 230 q9e) q8b kk))] [(100003,(.rig [(.gs 199999 l.length 3 1048576)])),(199999,(.gro .rat q8G l))]) λan e st=>wpre ⟨[(79,.cI jB),(100,.cI qv),(200,.cI D0)],26,[100003,199999]⟩ 999999 an st λ_ st=>e= .normal/\hasM [(5,(.c (.one (.ip .rat q8A y 0)))),(1,(.c (.one (.ip q9e q8b kk 0)))),(3,(.c (.one (.loc 100003 0)))),(7,(oO (.cl 230 q9e) q8b kk))] st/\hasL [(100003,(.rig [(.gs 199999 l.length 3 1048576)])),(199999,(.gro .rat q8G l))] st):=by
 refine⟨.pre 999999 (.ex (frzP 5 .rat q8A [5])) .nil,kX (q6K (q6J Exit.normal) (q6K (q6K (q6J (some ((.c (.one (.ip .rat q8A y 0))):WV))) (q6K (q6J (some ((.c (.one (.ip q9e q8b kk 0))):WV))) (q6K (q6J (some ((.c (.one (.loc 100003 0))):WV))) (q6K (q6J (some ((oO (.cl 230 q9e) q8b kk):WV))) True.intro)))) (q6K (q6J (some ((.rig [(.gs 199999 l.length 3 1048576)]):WB))) (q6K (q6J (some ((.gro .rat q8G l):WB))) True.intro))))⟩
theorem q1L(kk:List Rat)(hx:Bnds [q9e] [q8b] kk)(l:List (Rat))(y:Rat)(hl:l.length<=1048576)(hy:y∈kk): ∃an,Hold (wp (P:=Pg) ⟨[(79,.cI jB),(100,.cI qv),(200,.cI D0)],26,[100003,199999]⟩ (cB (Tryz.f144.body.getD .skip)) an (stW [(5,(.c (.one (.ip .rat q8A y 0)))),(1,(.c (.one (.ip q9e q8b kk 0)))),(3,(.c (.one (.loc 100003 0)))),(7,(oO (.cl 230 q9e) q8b kk))] [(100003,(.rig [(.gs 199999 l.length 3 1048576)])),(199999,(.gro .rat q8G l))]) (endR .rat 100003 [] [] [] (l++[mir1 kk y]))):=by
 have hl0:kk.length<=1048576:=hx.1;have h0:0<kk.length:=List.length_pos_of_mem hy;refine⟨.h 4 7 (.i .sub)<|.h 4 13 (.mk (.im .rat q8G)) .nil,kX (I4 (?_:0<kk.length) (?_:1<=kk.length) (?_:kk.length-1<kk.length) (?_:l.length=l.length) (q6K (q6J Exit.normal) (q6K (q6J true) (q6K (q6J ([]:List WA)) (q6K (q6J ([]:List WA)) (q6K (by(try simp only[q5G,q5H,q5K]):l.length+[((kk.getD 0 0)+(kk.getD (kk.length-1) 0)) -y].length=(l++[((kk.getD 0 0)+(kk.getD (kk.length-1) 0)) -y]).length) (q6K (rfl:l++[((kk.getD 0 0)+(kk.getD (kk.length-1) 0)) -y]=l++[mir1 kk y]) True.intro)))))))⟩<;>omega
theorem q1O(kk:List Rat)(hx:Bnds [q9e] [q8b] kk): ∃an,Hold (wp (P:=Pg) ⟨[(79,.cI jB),(100,.cI qv),(200,.cI D0)],26,[100003,199999]⟩ (cS (Tryz.f144.body.getD .skip)) an (stW [(1,(.c (.one (.ip q9e q8b kk 0)))),(3,(.c (.one (.loc 100003 0)))),(7,(oO (.cl 230 q9e) q8b kk))] [(100003,(.rig [(.gs 199999 ((kk.reverse.map λy=>mir1 kk y).length) 3 1048576)])),(199999,(.gro .rat q8G (kk.reverse.map λy=>mir1 kk y)))]) λan e st=>(e= .normal\/e= .ret)/\hasM [(2,(.c (.one (.gs 199999 ((kk.reverse.map λy=>mir1 kk y).length) 3 1048576))))] st/\hasL [(199999,(.gro .rat q8G (kk.reverse.map λy=>mir1 kk y)))] st):=by
 refine⟨.nil,kX (q6K ((Or.inr (q6J Exit.ret)):(Exit.ret= .normal\/Exit.ret= .ret)) (q6K (q6K (q6J (some ((.c (.one (.gs 199999 ((kk.reverse.map λy=>mir1 kk y).length) 3 1048576))):WV))) True.intro) (q6K (q6J (some ((.gro .rat q8G (kk.reverse.map λy=>mir1 kk y)):WB))) True.intro)))⟩
theorem q1M(kk:List Rat)(hx:Bnds [q9e] [q8b] kk): ∃an,Hold (wpre (P:=Pg) ⟨[(79,.cI jB),(100,.cI qv),(200,.cI D0)],26,[]⟩ 999999 an (stW [(2,(.c (.one (.gs 99999 ((kk.reverse.map λy=>mir1 kk y).length) 3 1048576))))] [(99999,(.gro .rat q8G (kk.reverse.map λy=>mir1 kk y)))]) λ_ st=>retW Pg Tryz.f144.results.toList (oO q9e (.s (q8b:Bd).len (.n (4*(q8b:Bd).mx+4))) (vo kk)) .ret st):=by
 have hl0:kk.length<=1048576:=hx.1;refine⟨.pre 999999 (.frz 99999 true [2]) .nil,kX (I (?_:(kk.reverse.map λy=>mir1 kk y).length=(kk.reverse.map λy=>mir1 kk y).length) ((rfl:(kk.reverse.map λy=>mir1 kk y)=vo kk)))⟩<;>omega
theorem BR:FI.OK ⟨144,[q9e],[q8b],λ_=>[],λb z=>(λ(kk:List Rat)=>oO q9e (.s (b0 b).len (.n (4*(b0 b).mx+4))) (vo kk)) z⟩ Pg:=⟨λkk hx hp=>by
 have hl0:kk.length<=1048576:=hx.1
 exact mkRf hmix (G:=[(79,.cI jB),(100,.cI qv),(200,.cI D0)]) (n:=26) (gs:=7) (p0:=8) (p1:=9) (v5:=5) (FB:=(Tryz.f144.body.getD .skip)) (te:= .rat) (t:= .rat) (be:=q8A) (b:=q8G) (nb:=1048576) (k3:=3) (M:=1048576) (pre:=[]) (post:=[]) (Lf0:=[]) (Sm0:=[(1,(.c (.one (.ip q9e q8b kk 0)))),(3,(.c (.one (.loc 3 0)))),(7,(oO (.cl 230 q9e) q8b kk))]) (Sm:=[(1,(.c (.one (.ip q9e q8b kk 0)))),(3,(.c (.one (.loc 100003 0)))),(7,(oO (.cl 230 q9e) q8b kk))]) (Me0:=[(2,(.c (.one (.gs 99999 ((kk.reverse.map λy=>mir1 kk y).length) 3 1048576))))]) (Me:=[(2,(.c (.one (.gs 199999 ((kk.reverse.map λy=>mir1 kk y).length) 3 1048576))))]) (Le0:=[(99999,(.gro .rat q8G (kk.reverse.map λy=>mir1 kk y)))]) (Le:=[(199999,(.gro .rat q8G (kk.reverse.map λy=>mir1 kk y)))]) (Ks:=[100003,199999]) (xs:=kk) Tryz.func144 (by kernel_rfl) (by kernel_rfl) rfl (by decide) hx rfl rfl (Jf (Bnds.h1 hx)) (λy=>mir1 kk y) rfl rfl rfl (by kernel_rfl) ⟨rfl,rfl,rfl,(λh=>h),rfl,rfl,rfl,(λh=>h),rfl,rfl,rfl,(λh=>h),trivial⟩ rfl rfl (by kernel_rfl) bw_r (by kernel_rfl) (by kernel_rfl) (λy hy=>q23 hx hy rfl) (hx.2) (by omega) (by omega) (by omega) (q1N kk hx) (q1K kk hx) (q1L kk hx) (q1O kk hx) ⟨rfl,rfl,(λh=>h),trivial⟩ ⟨rfl,NH _ _ _,(λh=>h),trivial⟩ rfl (q1M kk hx),λ_ _=>rfl,λb kk hx hp=>Jf (Bnds.h1 hx)⟩
abbrev Yg:FO:=⟨121,[q8z],[q86],λz=>(λ(ls:List Nat)=>[∀u∈ls,u<4294967296]) z,λk b z=>(λ(ls:List Nat)=> .c (.one (.gs k ((limbs (qa ls)).length) 1 ((b0 b).len)))) z,λb z=>(λ(ls:List Nat)=> .gro q98 q8J (limbs (qa ls))) z⟩
theorem Yh:Yg.OK Pg:=mkO hmix 23 22 Tryz.func121 rfl rfl (by decide) [] (λ_=>rfl) (λ_ _ _=>rfl) (λ_ _=>rfl) (λ_ _ _=>⟨rfl,rfl⟩) (λ(ls:List Nat) k b hx hp=>⟨q8 (q6e (Ji (hp _ q5Q)) (Bnds.h1 hx).sl.1) rfl,λu hu=>q6c (jr _ u hu)⟩) (λ(ls:List Nat) hx hp=>by
 have hl0:ls.length<=1099511627776:=hx.1;have hp0: ∀u∈ls,u<4294967296:=hp _ (q5Q)
 refine bodyO.g (.loop [.s 3 q97 q8m] (λ(k:Nat)=>k<=ls.length/\qa (ls.take k)=qa ls) (λ(k:Nat)=>k) λ(k:Nat)=> .cond (.h 2 5 (.i .sub)<|.cond (.h 3 1 (.i .sub) .nil)<|.h 4 0 (.mk (.gro q98 q8J)) .nil)<|.h 4 0 (.mk (.gro q98 q8J)) .nil) (kX<|I (⟨q6d _,by rw[q5Y]⟩:ls.length<=ls.length/\qa (ls.take ls.length)=qa ls) λ(k:Nat)(hb1:HB [.s 3 q97 q8m] k)(hC:k<=ls.length/\qa (ls.take k)=qa ls)=>have hv6:=(show k<=1099511627776 from hb1);have hk:=hC.1;Sp (0<k) (λh2=>I2 (?_:1<=k) (?_:k-1<ls.length)<|Sp (ls.getD (k-1) 0=0) (λh3=>I (?_:1<=k) (q6K (⟨by omega,Fv hC.1 (by omega) hC.2 (by omega)⟩:k-1<=ls.length/\qa (ls.take (k-1))=qa ls) (?_:k-1<k))) λh4=>I2 (?_:k<=ls.length) (rfl:0=([]:List Nat).length) (q6K ((q5V _).trans (Ai hp0 hC.1 hC.2 (by omega)):([]:List Nat)++(ls.take k)=limbs (qa ls)) ((by rw[<-Ai hp0 hC.1 hC.2 (by omega)];simp:0+(ls.take k).length=(limbs (qa ls)).length)))) λh5=>I2 (?_:k<=ls.length) (rfl:0=([]:List Nat).length) (q6K ((q5V _).trans (Ai hp0 hC.1 hC.2 (by omega)):([]:List Nat)++(ls.take k)=limbs (qa ls)) ((by rw[<-Ai hp0 hC.1 hC.2 (by omega)];simp:0+(ls.take k).length=(limbs (qa ls)).length))))<;>omega)
abbrev Yf(k:Nat)(b:List Bd)(ls:List Nat):WV:= .c (.one (.gs k ((limbs (qa ls)).length) 1 ((b0 b).len)))
abbrev Ye(b:List Bd)(ls:List Nat):WB:= .gro q98 q8J (limbs (qa ls))
theorem Sq(d:Nat)(ls:List Nat)(hx:Bnds [q8z] [q86] ls)(hp: ∀c0∈([∀u∈ls,u<4294967296]:List Prop),c0):vQ Pg 121 (argsE [q8z] ls) [] (Yf d [q86] ls).exp [(d,some (Ye [q86] ls).exp)]:=Yh.sig d ls hx hp
theorem So(b:List Bd)(ls:List Nat)(hx:Bnds [.sl q98] b ls)(hp: ∀p∈([∀u∈ls,u<4294967296]:List Prop),p):(WV.c (.one (.dt .mag (.n (32*(b0 b).len)) (qa ls)))).ok:=q8 (ED (hp _ q5Q) (Bnds.h1 hx).sl.1) rfl
theorem IR(ls:List Nat)(hx:Bnds [.sl q98] [.s 1099511627776 q8J] ls)(hp: ∀p∈([∀u∈ls,u<4294967296]:List Prop),p)(b:Bd):Sig Pg 121 (argsE [.sl q98] ls) (WV.c (.one (.dt .mag b (qa ls)))).exp:=by
 have h:=frzO (Sq 0 ls hx hp) (by decide) rfl .u;rw[magE (qa ls) .u b]at h;exact h
def Bz:Ctr Pg:=⟨121,[.sl q98],[.s 1099511627776 q8J],λz=>[∀u∈z,u<4294967296],λb z=>oO .mag (.n (32*(b0 b).len)) (qa z),λz hx hp=>IR z hx hp _,λ_ _=>rfl,λb z hx hp=>So b z hx hp⟩
theorem PO(x:Nat)(hx:Bnds [.mag] [.n 1099511627776] x)(b:Bd):Sig Pg 121 (argsE [.mag] x) (WV.c (.one (.dt .mag b x))).exp:=by
 have h:=IR (limbs x) ⟨q6e (qq (q6b hx)) (by decide),(Bnd.limbs hx).2⟩ (by intro p hp;simp only[q5O,q5W,or_false]at hp;subst hp;exact jr x) b;rw[qN,<-F0]at h;exact h
def JJ:Ctr Pg:=⟨121,[.mag],[.n 1099511627776],λz=>[],λb z=>oO .mag (b0 b) z,λz hx hp=>PO z hx _,λ_ _=>rfl,λb z hx hp=>q8 (Bnds.h1 hx) rfl⟩
theorem KZ:FI.OK ⟨112,[q99],[q8h],λ_=>[],λb z=>(λ(x:Nat)=>oO .mag (.n (Nat.log2 (b0 b).nb+1)) (x)) z⟩ Pg:=mF Tryz.func112 [] (λ(x:Nat) b hx hp=>q8 (Ap (Bnds.h1 hx).nat) rfl) (λ(x:Nat) hx hp=>by
 have hx0:x<=18446744073709551615:=hx
 refine⟨.h 1 5 (.mk (.im q98 q8J))<|.h 1 6 (.c Bz) .nil,kX (I (by intro u hu;simp only[q5O,q5W,or_false]at hu;omega: ∀u∈[x%4294967296,x/2^32],u<4294967296) ((by simp only[qa];omega:qa [x%4294967296,x/2^32]=x)))⟩)
theorem TZ:FI.OK ⟨113,[q8z],[q86],λz=>(λ(ls:List Nat)=>[ls.length=0\/ls.getD (ls.length-1) 0≠0]) z,λb z=> .c (.one (.vl (.bool true)))⟩ Pg:=mF Tryz.func113 [] (λ(ls:List Nat) b hx hp=>Be rfl) (λ(ls:List Nat) hx hp=>by
 have hl0:ls.length<=1099511627776:=hx.1;have hp0:ls.length=0\/ls.getD (ls.length-1) 0≠0:=hp _ (q5Q)
 refine⟨.cond .nil<|.h 1 7 (.i .sub) .nil,kX (Sp (ls.length=0) (λh1=>trivial) λh2=>I2 (?_:1<=ls.length) (?_:ls.length-1<ls.length) ((?_:ls.getD (ls.length-1) 0≠0)))⟩<;>omega)
theorem FA:FI.OK ⟨47,[.mag,.mag],[q8m,q8m],λ_=>[],λb z=>(λ(x:Nat)(y:Nat)=>oO q91 q9q (j3 x y)) z.1 z.2⟩ Pg:=mF Tryz.func47 [] (λ(x:Nat)(y:Nat) b hx hp=>q8 (Nv x y) rfl) (λ(x:Nat)(y:Nat) hx hp=>by
 have hx0:qM x 1099511627776:=hx.1;have hl0:(limbs x).length<=34359738369:=qq (q6b hx0);have hx1:qM y 1099511627776:=hx.2;have hl1:(limbs y).length<=34359738369:=qq (q6b hx1)
 refine⟨.cond .nil<|.loop [.s 5 q91 q8F] (λ(z:Int)=>CmpI x y z) (λ(z:Int)=>(z+1).toNat) λ(z:Int)=> .cond (.h 8 2 (.ix z.toNat)<|.h 8 6 (.ix z.toNat)<|.cond .nil<|.h 10 2 (.ix z.toNat)<|.h 10 6 (.ix z.toNat) .nil) .nil,kX (Sp ((limbs x).length≠(limbs y).length) (λh1=>Sp ((limbs x).length<(limbs y).length) (λh2=>(?_:(-1)=j3 x y)) λh3=>(?_:1=j3 x y)) λh4=>I (CmpI.start (by omega):CmpI x y ((((limbs x).length:Nat):Int) -1)) λ(z:Int)(hb5:HB [.s 5 q91 q8F] z)(hC:CmpI x y z)=>have hv12:=(show Int.natAbs z<=68719476736 from hb5);have hC0:=hC.h0;have hC1:=hC.h1;Sp (0<=z) (λh6=>I4 (?_:z=((z.toNat:Nat):Int)) (?_:z.toNat<(limbs x).length) (?_:z=((z.toNat:Nat):Int)) (?_:z.toNat<(limbs y).length)<|Sp ((limbs x).getD z.toNat 0<(limbs y).getD z.toNat 0) (λh7=>(?_:(-1)=j3 x y)) λh8=>I4 (?_:z=((z.toNat:Nat):Int)) (?_:z.toNat<(limbs x).length) (?_:z=((z.toNat:Nat):Int)) (?_:z.toNat<(limbs y).length)<|Sp ((limbs y).getD z.toNat 0<(limbs x).getD z.toNat 0) (λh9=>(?_:1=j3 x y)) λh10=>I (iBd:Bnd q91 q8F (z-1)) (q6K ((hC.at (by omega) (by omega)).1 (by omega):CmpI x y (z-1)) (?_:((z-1)+1).toNat<(z+1).toNat))) λh11=>((hC.fin (by omega)).symm:0=j3 x y))⟩<;>first|omega|(first|exact(LE (by omega)).symm|exact((hC.at (by omega) (by omega)).2.1 (by omega)).symm)|(first|exact(LF (by omega)).symm|exact((hC.at (by omega) (by omega)).2.2 (by omega)).symm))
theorem N2:FI.OK ⟨186,[.mag,.mag],[q8m,q8m],λz=>(λ(x:Nat)(y:Nat)=>[y<=x]) z.1 z.2,λb z=>(λ(x:Nat)(y:Nat)=>oO .mag (b0 b) (x-y)) z.1 z.2⟩ Pg:=mF Tryz.func186 [] (λ(x:Nat)(y:Nat) b hx hp=>q8 (Bnd.magLe (Bnds.h2 hx).1 (Nat.sub_le _ _)) rfl) (λ(x:Nat)(y:Nat) hx hp=>by
 have hx0:qM x 1099511627776:=hx.1;have hl0:(limbs x).length<=34359738369:=qq (q6b hx0);have hx1:qM y 1099511627776:=hx.2;have hl1:(limbs y).length<=34359738369:=qq (q6b hx1);have hp0:y<=x:=hp _ (q5Q);have hlen:=zU hp0
 refine⟨.h 1 2 (.mk (.arr q98 q8J))<|.loop [.s 7 q97 q8C,.s 6 q99 q9q,.a 12 q98 q8J] (λ((i,c,out):Nat×Nat×List Nat)=>SubI x y i c out) (λ((i,c,out):Nat×Nat×List Nat)=>(limbs x).length-i) λ((i,c,out):Nat×Nat×List Nat)=> .cond (.cond (.cond (.h 14 4 (.i .sub) .nil)<|.h 14 4 (.i .sub) .nil)<|.cond (.h 14 4 (.i .sub) .nil)<|.h 14 4 (.i .sub) .nil)<|.pre 15 (.frz 12 true [5])<|.h 15 1 (.c Bz) .nil,kX (I2 (?_:(limbs x).length=(limbs x).length) (SubI.start x y:SubI x y 0 0 (List.replicate ((limbs x).length) (0:Nat))) λ(i:Nat)(c:Nat)(out:List Nat)(hb1:HB [.s 7 q97 q8C,.s 6 q99 q9q,.a 12 q98 q8J] (i,c,out))(hI:SubI x y i c out)=>have hv10:=(show i<=34359738369 from hb1.1);have hv11:=(show c<=1 from hb1.2.1);have hv12:=(show∀u∈out,u<=4294967295 from hb1.2.2);have hIl:=hI.hl;have hIi:=hI.hi;have hIc:=hI.hc;have hg1:=qc x i;have hg2:=qc y i;Sp (i<(limbs x).length) (λh2=>Sp (i<(limbs y).length) (λh3=>I2 (?_:i<(limbs y).length) (?_:i<(limbs x).length)<|Sp ((limbs x).getD i 0<c+((limbs y).getD i 0)) (λh4=>I4 (?_:c+((limbs y).getD i 0)<=((limbs x).getD i 0)+4294967296) (?_:i<(limbs x).length) (?_:i<out.length) (qy:Bnd q97 q8C (i+1)) (q6K (?_:SubI x y (i+1) 1 (out.set i (((((limbs x).getD i 0)+4294967296) -(c+((limbs y).getD i 0)))%4294967296))) (?_:(limbs x).length-(i+1)<(limbs x).length-i))) λh5=>I4 (?_:c+((limbs y).getD i 0)<=(limbs x).getD i 0) (?_:i<(limbs x).length) (?_:i<out.length) (qy:Bnd q97 q8C (i+1)) (q6K (?_:SubI x y (i+1) 0 (out.set i (((limbs x).getD i 0) -(c+((limbs y).getD i 0))))) (?_:(limbs x).length-(i+1)<(limbs x).length-i))) λh6=>I (?_:i<(limbs x).length)<|Sp ((limbs x).getD i 0<c) (λh7=>I4 (?_:c<=((limbs x).getD i 0)+4294967296) (?_:i<(limbs x).length) (?_:i<out.length) (qy:Bnd q97 q8C (i+1)) (q6K (?_:SubI x y (i+1) 1 (out.set i (((((limbs x).getD i 0)+4294967296) -c)%4294967296))) (?_:(limbs x).length-(i+1)<(limbs x).length-i))) λh8=>I4 (?_:c<=(limbs x).getD i 0) (?_:i<(limbs x).length) (?_:i<out.length) (qy:Bnd q97 q8C (i+1)) (q6K (?_:SubI x y (i+1) 0 (out.set i (((limbs x).getD i 0) -c))) (?_:(limbs x).length-(i+1)<(limbs x).length-i))) λh9=>I (?_:(limbs x).length=out.length) (have hF:=hI.fin' (by omega) hp0;I (hF.2: ∀u∈out,u<4294967296) ((hF.1:qa out=x-y))))⟩<;>first|omega|(first|exact hI.lt (by omega) (by first|rfl|rw[qS (l:=limbs y) (by omega),q64]) (by assumption)|exact hI.ge (by omega) (by first|rfl|rw[qS (l:=limbs y) (by omega),q64]) (by assumption)))
theorem q3k:FI.OK ⟨203,[.mag,.mag],[q8m,q8m],λ_=>[],λb z=>(λ(x:Nat)(y:Nat)=> .tup [.one (.dt .mag (b0 b) (x-y)),.one (.dt q91 (.n 7) (subC x y))]) z.1 z.2⟩ Pg:=mF Tryz.func203 [(47,.cI FA),(186,.cI N2)] (λ(x:Nat)(y:Nat) b hx hp=>q9 (q8 (Bnd.magLe (Bnds.h2 hx).1 (Nat.sub_le _ _)) rfl) (q9 (q8 (S4 x y) rfl) qr)) (λ(x:Nat)(y:Nat) hx hp=>by
 have hx0:qM x 1099511627776:=hx.1;have hl0:(limbs x).length<=34359738369:=qq (q6b hx0);have hx1:qM y 1099511627776:=hx.2;have hl1:(limbs y).length<=34359738369:=qq (q6b hx1)
 refine⟨.nil,kX (Sp (j3 x y<0) (λh1=>q6K (by have:=vt.1 (show j3 x y<0 by assumption);omega:0=x-y) ((if_pos (vt.1 (by assumption))).symm:7=subC x y)) λh2=>have hp0:=(show y<=x from q6U (mt vt.2 (by assumption)));I (?_:y<=x) (q6K (q6J (x-y)) ((if_neg (by omega)).symm:0=subC x y)))⟩<;>omega)
theorem FC:FI.OK ⟨153,[.mag,.mag],[q8m,q8m],λ_=>[],λb z=>(λ(x:Nat)(y:Nat)=>oO .mag (.n ((b0 b).nb+(b1 b).nb)) (x*y)) z.1 z.2⟩ Pg:=mF Tryz.func153 [] (λ(x:Nat)(y:Nat) b hx hp=>q8 (G7 (Bnds.h2 hx).1.mag (Bnds.h2 hx).2.mag) rfl) (λ(x:Nat)(y:Nat) hx hp=>by
 have hx0:qM x 1099511627776:=hx.1;have hl0:(limbs x).length<=34359738369:=qq (q6b hx0);have hx1:qM y 1099511627776:=hx.2;have hl1:(limbs y).length<=34359738369:=qq (q6b hx1)
 refine⟨.h 1 5 (.mk (.arr q98 q8J))<|.loop [.s 6 q97 q8C,.a 14 q98 q8J] (λ((i,out):Nat×List Nat)=>MulI x y i out) (λ((i,out):Nat×List Nat)=>(limbs x).length-i) λ((i,out):Nat×List Nat)=> .cond (.loop [.s 8 q97 q8C,.s 7 q99 q8J,.a 14 q98 q8J] (λ((j,c,out2):Nat×Nat×List Nat)=>MulJ x y i ((limbs x).getD i 0) j c out out2) (λ((j,c,out2):Nat×Nat×List Nat)=>(limbs y).length-j) λ((j,c,out2):Nat×Nat×List Nat)=> .nil)<|.pre 13 (.frz 14 true [5])<|.h 13 1 (.c Bz) .nil,kX (I2 (?_:((limbs x).length)+((limbs y).length)=((limbs x).length)+((limbs y).length)) (MulI.start x y:MulI x y 0 (List.replicate (((limbs x).length)+((limbs y).length)) (0:Nat))) λ(i:Nat)(out:List Nat)(hb1:HB [.s 6 q97 q8C,.a 14 q98 q8J] (i,out))(hM:MulI x y i out)=>have hv10:=(show i<=34359738369 from hb1.1);have hv11:=(show∀u∈out,u<=4294967295 from hb1.2);have hMl:=hM.hl;have hMi:=hM.hi;Sp (i<(limbs x).length) (λh2=>I (MulJ.start hM:MulJ x y i ((limbs x).getD i 0) 0 0 out out) λ(j:Nat)(c:Nat)(out2:List Nat)(hb3:HB [.s 8 q97 q8C,.s 7 q99 q8J,.a 14 q98 q8J] (j,c,out2))(hJ:MulJ x y i ((limbs x).getD i 0) j c out out2)=>have hv6:=(show j<=34359738369 from hb3.1);have hv7:=(show c<=4294967295 from hb3.2.1);have hv8:=(show∀u∈out2,u<=4294967295 from hb3.2.2);have hJl:=hJ.hl;have hJj:=hJ.hj;have hJc:=hJ.hc;Sp (j<(limbs y).length) (λh4=>I6 (?_:i<(limbs x).length) (?_:j<(limbs y).length) (?_:i+j<((limbs x).length)+((limbs y).length)) (?_:i+j<out2.length) (?_:i+j<((limbs x).length)+((limbs y).length)) (?_:i+j<out2.length)<|I (qy:Bnd q97 q8C (j+1)) (q6K ((hJ.step (by omega) (by omega) (qc x i) rfl).1:MulJ x y i ((limbs x).getD i 0) (j+1) ((c+((((limbs x).getD i 0)*((limbs y).getD j 0))+(out2.getD (i+j) 0)))/2^32) out (out2.set (i+j) ((c+((((limbs x).getD i 0)*((limbs y).getD j 0))+(out2.getD (i+j) 0)))%4294967296))) (?_:(limbs y).length-(j+1)<(limbs y).length-j))) λh5=>I3 (?_:i+((limbs y).length)<((limbs x).length)+((limbs y).length)) (?_:i+((limbs y).length)<out2.length) (qy:Bnd q97 q8C (i+1)) (q6K (MulJ.fin' hM (by omega) hJ (by omega):MulI x y (i+1) (out2.set (i+((limbs y).length)) c)) (?_:(limbs x).length-(i+1)<(limbs x).length-i))) λh9=>I (?_:((limbs x).length)+((limbs y).length)=out.length) (have hF:=hM.fin' (by omega);I (hF.2: ∀u∈out,u<4294967296) ((hF.1:qa out=x*y))))⟩<;>omega)
theorem Sk:FI.OK ⟨182,[.mag,q98],[q8m,q8J],λz=>(λ(x:Nat)(u:Nat)=>[0<u]) z.1 z.2,λb z=>(λ(x:Nat)(u:Nat)=> .tup [.one (.dt .mag (b0 b) (x/u)),.one (.dt q98 (b1 b) (x%u))]) z.1 z.2⟩ Pg:=mF Tryz.func182 [] (λ(x:Nat)(u:Nat) b hx hp=>q9 (q8 ((Bnds.h2 hx).1.magLe (q65 _ _)) rfl) (q9 (q8 ((Bnds.h2 hx).2.natLe (q6b (q6k _ (hp _ (q5Q))))) rfl) qr)) (λ(x:Nat)(u:Nat) hx hp=>by
 have hx0:qM x 1099511627776:=hx.1;have hl0:(limbs x).length<=34359738369:=qq (q6b hx0);have hx1:u<=4294967295:=hx.2;have hp0:0<u:=hp _ (q5Q)
 refine⟨.h 1 2 (.mk (.arr q98 q8J))<|.loop [.s 8 q91 q8D,.s 7 q99 q8J,.a 11 q98 q8J] (λ((z,r,out):Int×Nat×List Nat)=>SmallZ x u z r out) (λ((z,r,out):Int×Nat×List Nat)=>(z+1).toNat) λ((z,r,out):Int×Nat×List Nat)=> .cond (.h 6 4 (.ix z.toNat)<|.h 6 7 (.i (.n ((r*2^32)+((limbs x).getD z.toNat 0)) 18446744073709551615))<|.h 7 7 (.ix z.toNat) .nil)<|.pre 9 (.frz 11 true [6,7])<|.h 9 1 (.c Bz) .nil,kX (I2 (?_:(limbs x).length=(limbs x).length) (SmallZ.start hp0:SmallZ x u ((((limbs x).length:Nat):Int) -1) 0 (List.replicate ((limbs x).length) (0:Nat))) λ(z:Int)(r:Nat)(out:List Nat)(hb1:HB [.s 8 q91 q8D,.s 7 q99 q8J,.a 11 q98 q8J] (z,r,out))(hI:SmallZ x u z r out)=>have hv4:=(show Int.natAbs z<=34359738370 from hb1.1);have hv5:=(show r<=4294967295 from hb1.2.1);have hv6:=(show∀u∈out,u<=4294967295 from hb1.2.2);have hB:=hI.b;Sp (0<=z) (λh2=>I6 (?_:z=((z.toNat:Nat):Int)) (?_:z.toNat<(limbs x).length) (CY _ 32 rfl (qc _ _) (by have:=qc x z.toNat;omega):qU .or .u64 ((r*2^32:Nat):Int) (((limbs x).getD z.toNat 0:Nat):Int) (((r*2^32)+((limbs x).getD z.toNat 0):Nat):Int)) (by have:=qc x z.toNat;omega:(r*2^32)+((limbs x).getD z.toNat 0)<=18446744073709551615) (?_:0<u) (?_:z=((z.toNat:Nat):Int))<|I4 (?_:z.toNat<(limbs x).length) (?_:z.toNat<out.length) (?_:0<u) (iBd:Bnd q91 q8D (z-1)) (q6K (hI.step (by omega) rfl:SmallZ x u (z-1) (((r*2^32)+((limbs x).getD z.toNat 0))%u) (out.set z.toNat ((((r*2^32)+((limbs x).getD z.toNat 0))/u)%4294967296))) (?_:((z-1)+1).toNat<(z+1).toNat))) λh3=>I (?_:(limbs x).length=out.length) (have hF:=hI.fin (by omega);I (hF.2.2: ∀u∈out,u<4294967296) (q6K (hF.1:qa out=x/u) (hF.2.1:r=x%u))))⟩<;>omega)
theorem TY:FI.OK ⟨185,[.mag,q98],[q8m,q8J],λ_=>[],λb z=>(λ(x:Nat)(u:Nat)=>oO .mag (.n ((b0 b).nb+(Nat.log2 (b1 b).nb+1))) (x*u)) z.1 z.2⟩ Pg:=mF Tryz.func185 [(112,.cI KZ),(153,.cI FC)] (λ(x:Nat)(u:Nat) b hx hp=>q8 (G7 (Bnds.h2 hx).1.mag (Ap (Bnds.h2 hx).2.nat)) rfl) (λ(x:Nat)(u:Nat) hx hp=>by
 refine⟨.nil,kX ((q6J (x*u)))⟩)
theorem N4:FI.OK ⟨177,[.mag],[q8m],λ_=>[],λb z=>(λ(x:Nat)=> .tup [.one (.dt q99 q8h (xw x)),.one (.dt .bool .u (xk x))]) z⟩ Pg:=mF Tryz.func177 [] (λ(x:Nat) b hx hp=>q9 (q8 (q5j x) rfl) (q9 (q8 trivial rfl) qr)) (λ(x:Nat) hx hp=>by
 have hx0:qM x 1099511627776:=hx;have hl0:(limbs x).length<=34359738369:=qq (q6b hx0)
 refine⟨.cond .nil<|.cond .nil<|.cond (.h 7 9 (.i (.n (((limbs x).getD 0 0)+(((limbs x).getD 1 0)*2^32)) 18446744073709551615)) .nil) .nil,kX (Sp ((limbs x).length=0) (λh1=>q6K (by rw[(xw_y (by omega)).1];exact(nl0.1 (by omega)).symm:0=xw x) ((xw_y (by omega)).2.symm:true=xk x)) λh2=>Sp ((limbs x).length=1) (λh3=>I (?_:0<(limbs x).length) (q6K (by rw[(xw_y (by omega)).1];exact P8 (by omega):(limbs x).getD 0 0=xw x) ((xw_y (by omega)).2.symm:true=xk x))) λh4=>Sp ((limbs x).length=2) (λh5=>I4 (?_:0<(limbs x).length) (?_:1<(limbs x).length) (Hv _ 32 rfl (qc _ _) (by have:=qc x 0;have:=qc x 1;omega):qU .or .u64 (((limbs x).getD 0 0:Nat):Int) ((((limbs x).getD 1 0)*2^32:Nat):Int) ((((limbs x).getD 0 0)+(((limbs x).getD 1 0)*2^32):Nat):Int)) (by have:=qc x 0;have:=qc x 1;omega:((limbs x).getD 0 0)+(((limbs x).getD 1 0)*2^32)<=18446744073709551615) (q6K (by rw[(xw_y (by omega)).1];exact S8 (by omega):((limbs x).getD 0 0)+(((limbs x).getD 1 0)*2^32)=xw x) ((xw_y (by omega)).2.symm:true=xk x))) λh6=>q6K ((xw_n (by omega)).1.symm:0=xw x) ((xw_n (by omega)).2.symm:false=xk x))⟩<;>omega)
theorem Oq:FI.OK ⟨178,[.mag],[q8m],λ_=>[],λb z=>(λ(x:Nat)=>oO q97 (b0 b) (bl x)) z⟩ Pg:=mF Tryz.func178 [] (λ(x:Nat) b hx hp=>q8 (PU (Bnds.h1 hx)) rfl) (λ(x:Nat) hx hp=>by
 have hx0:qM x 1099511627776:=hx;have hl0:(limbs x).length<=34359738369:=qq (q6b hx0)
 refine⟨.cond .nil<|.h 3 2 (.i .sub)<|.h 4 3 (.i .sub)<|.loop [.s 3 q97 q8n,.s 4 q98 q8J] (λ((k,v):Nat×Nat)=>k+bl v=bl x) (λ((k,v):Nat×Nat)=>v) λ((k,v):Nat×Nat)=> .nil,kX (Sp ((limbs x).length=0) (λh1=>(by have:=(nl0 (x:=x)).1 (by omega);subst this;rfl:0=bl x)) λh2=>have hpos:=(show 0<(limbs x).length by omega);have hBB:=IV hpos;Id2 (?_:1<=(limbs x).length)<|I2 (?_:((limbs x).length) -1<(limbs x).length) (hBB:(32*(((limbs x).length) -1))+bl ((limbs x).getD (((limbs x).length) -1) 0)=bl x) λ(k:Nat)(v:Nat)(hb3:HB [.s 3 q97 q8n,.s 4 q98 q8J] (k,v))(hC:k+bl v=bl x)=>have hv6:=(show k<=1099511627872 from hb3.1);have hv7:=(show v<=4294967295 from hb3.2);have hbx:=(C1 hx0:bl x<=1099511627776);Sp (v≠0) (λh4=>I (qy:Bnd q97 q8n (k+1)) (q6K (by have:=Vt (v:=v) (by omega);omega:(k+1)+bl (v/2^1)=bl x) (?_:v/2^1<v))) λh5=>(by have e:v=0:=(by omega);rw[e,FJ]at hC;omega:k=bl x))⟩<;>omega)
end Go.Proofs.YtajflbhmdcgkmaaGreat.Sx
