/-
Own laws, part 13. No condition.
-/
import Derived.Test.YtamiaelfnfnegaaGreatDoorM12
import Derived.Test.YtamiaelfnfnegaaGreatDoorProg
import Derived.KernelRfl
import Derived.Test.YtamiaelfnfnegaaGreatDoorM9
import Derived.Test.YtamiaelfnfnegaaGreatDoorM10
namespace Go.Proofs.YtamiaelfnfnegaaGreatDoor.Sx.Kx
open Go
set_option linter.unusedVariables false
set_option linter.unusedSimpArgs false
noncomputable section
def runE:Bool:=okB ((CT Go.Proofs.Tryz.prog (prims tb2) locT 60).call 5 (jz []).c0 0 stE)
theorem run_e:runE=true:=by kernel_rfl
end
noncomputable section
def Yr(P:Program)(fn:Func):Bool:=match fn.body with|some c=>vx P c|none=>true
def Yq(P:Program):Bool:=P.funcs.toList.all (Yr P)
theorem SV{P:Program}(h:Yq P=true): ∀(f:FuncId) fn c,P.funcs[f]?=some fn->fn.body=some c->vx P c=true:=by
 intro f fn c hf hc
 have hm:fn∈P.funcs.toList:=by
  obtain⟨h1,h2⟩:=Array.getElem?_eq_some_iff.1 hf;rw[<-h2];exact Array.mem_toList_iff.2 (Array.getElem_mem h1)
 have h3:=List.all_eq_true.1 h fn hm;unfold Yr at h3;rw[hc]at h3;exact h3
theorem Lx:Yq Go.Proofs.Tryz.prog=true:=by kernel_rfl
end
noncomputable section
section
variable {D:List Int}
theorem ZS{x:Bs}(h:prt x=[x]):mrg x x=x:=by
 unfold mrg;rw[h,MM (b:=[x]) (List.pairwise_singleton _ _) (λy=>by simp)];rfl
theorem ZT(x:ByteArray)(h:x.size<=900):Sig Go.Proofs.Tryz.prog 8 (argsE [.str,.str] (x,x)) (.c (.one (.val (.string (mgB x x))))):=
 MB.sig (x,x) ⟨show x.size<=2000 by omega,show x.size<=2000 by omega⟩ (λp hp=>by
  have hp:=q5j.1 hp;subst hp;show x.size+x.size+1<=2000
  omega)
theorem WW(a:List Nat)(h1:a.length<=900)(hr:prt (j5 ⟨(a.map UInt8.ofNat).toArray⟩)=[j5 ⟨(a.map UInt8.ofNat).toArray⟩])(hb: ∀x∈a,x<256):
  ∃s1,CallOk D Go.Proofs.Tryz.prog 8 [.st a,.st a] stE (.st a) s1:=by
 have hz:ByteArray.size ⟨(a.map UInt8.ofNat).toArray⟩=a.length:=by simp[ByteArray.size]
 have hs:=ZT ⟨(a.map UInt8.ofNat).toArray⟩ (by omega)
 have e:mgB ⟨(a.map UInt8.ofNat).toArray⟩ ⟨(a.map UInt8.ofNat).toArray⟩=⟨(a.map UInt8.ofNat).toArray⟩:=by
  unfold mgB;rw[ZS hr];rfl
 rw[e]at hs;exact⟨stE,wN (vs:=[.st a,.st a]) hs (QK D) hb (by simp)⟩
theorem q1K:j0 D Go.Proofs.Tryz.prog 8 (j4 (.memo mmo0)):=q1Z (nx:=⟨.d0,.d0,.d0,.d0⟩) (λp hp=>by
 unfold mmo0 at hp;simp only[q5d,q5l,or_false]at hp;rcases hp with rfl
 .exact WW _ (by decide) (by kernel_rfl) (by decide)) (λp hp=>by
 unfold mmo0 at hp;simp only[q5d,q5l,or_false]at hp
 rcases hp with rfl<;>exact⟨rfl,rfl⟩)
end
end
noncomputable section
theorem q0n:runE=okB ((CT Go.Proofs.Tryz.prog (prims tb2) locT 60).call 5 (jz []).c0 ([]:List V).length stE):=by
 unfold runE;rw[show([]:List V).length=0 from rfl]
section
variable {D:List Int}
abbrev TbOk(D:List Int)(tb:List (Nat×Pt)):Prop:= ∀p∈tb,j0 D Go.Proofs.Tryz.prog p.1 (j4 p.2)
abbrev DpOk(D:List Int)(f:FuncId)(e:DE):Prop:=(∃v1 s1,CallOk D Go.Proofs.Tryz.prog f e.xs (stD e) v1 s1/\fitD e v1 s1=true)/\sndB e=true
theorem fn{Q:DE->Prop}: ∀B∈([]:List (List DE)),∀e∈B,Q e:=λB h=>by cases h
theorem fb{Q:DE->Prop}{B:List DE}{L:List (List DE)}(h: ∀e∈B,Q e)(k: ∀B∈L,∀e∈B,Q e): ∀B'∈B::L,∀e∈B',Q e:=λB' hB=>by
 rcases q5d.1 hB with rfl|hB
 .exact h
 .exact k B' hB
theorem ft{Q:DE->Prop}{L:List DE}(n:Nat)(h: ∀e∈L.take n,Q e)(k: ∀e∈L.drop n,Q e): ∀e∈L,Q e:=λe he=>by
 rw[<-List.take_append_drop n L]at he;rcases q5c.1 he with he|he
 .exact h e he
 .exact k e he
theorem Uf{tb:List (Nat×Pt)}(htb:TbOk D tb)(hm:Go.Proofs.Tryz.prog.follows .mixedOrders=true){f:FuncId}{L:List DE}(h:vY tb f L=true):
  ∀e∈L,DpOk D f e:=by
 induction L with
 |nil=>intro e he;cases he
 |cons q r ih=>
  have h: @Bool.rec (λ_=>Bool) false (vY tb f r) (okD q ((CT Go.Proofs.Tryz.prog (prims tb) locT 60).call f (jz q.xs).c0 q.xs.length (stD q))&&sndB q)=true:=h
  cases hb:(okD q ((CT Go.Proofs.Tryz.prog (prims tb) locT 60).call f (jz q.xs).c0 q.xs.length (stD q))&&sndB q)with
  |false=>rw[hb]at h;cases h
  |true=>
   rw[hb]at h;rw[q4L]at hb;obtain⟨h1,h2⟩:=hb;intro e he;rcases q5d.1 he with rfl|he
   .obtain⟨a1,a2,_,_⟩:=V1 (D:=D) h2
    cases hr:(CT Go.Proofs.Tryz.prog (prims tb) locT 60).call f (jz e.xs).c0 e.xs.length (stD e)with
    |no t=>rw[hr]at h1;cases h1
    |need n=>rw[hr]at h1;cases h1
    |ok v s=>
     rw[hr]at h1;exact⟨⟨v,s,ML (D:=D) (P:=Go.Proofs.Tryz.prog) (pr:=prims tb) (tb:=locT) (n:=60) (SV Lx) (O1 htb) hm hr a1 a2,h1⟩,h2⟩
   .exact ih h e he
theorem Vw(hm:Go.Proofs.Tryz.prog.follows .mixedOrders=true):TbOk D tb0:=λp hp=>by
 unfold tb0 at hp;rcases q5d.1 hp with rfl|hp
 .exact q1K
 exact q33 p hp
theorem Vx(hm:Go.Proofs.Tryz.prog.follows .mixedOrders=true):TbOk D tb1:=λp hp=>by
 have k: ∀{f:FuncId}{L:List DE},vY tb0 f L=true-> ∀e∈L,DpOk D f e:=λh=>Uf (Vw hm) hm h
 unfold tb1 at hp;rcases q5d.1 hp with rfl|hp
 .exact Cb (ft 1 (k Sc) (ft 1 (k Sd) (ft 1 (k Se) (ft 1 (k Sf) (ft 1 (k Sg) (k Sh))))))
 rcases q5d.1 hp with rfl|hp
 .exact Cb (ft 9 (k Si) (ft 9 (k Sj) (k Sk)))
 rcases q5d.1 hp with rfl|hp
 .exact Cb (ft 20 (k Sl) (k Sm))
 rcases q5d.1 hp with rfl|hp
 .exact Cb (k Xc)
 exact Vw hm p hp
theorem q32(hm:Go.Proofs.Tryz.prog.follows .mixedOrders=true):TbOk D tb2:=λp hp=>by
 have k: ∀{f:FuncId}{L:List DE},vY tb1 f L=true-> ∀e∈L,DpOk D f e:=λh=>Uf (Vx hm) hm h
 unfold tb2 at hp;rcases q5d.1 hp with rfl|hp
 .exact Cb (k Xd)
 rcases q5d.1 hp with rfl|hp
 .exact Cb (ft 1 (k Sn) (k So))
 exact Vx hm p hp
end
theorem sane_sig(hm:Go.Proofs.Tryz.prog.follows .mixedOrders=true):Sig Go.Proofs.Tryz.prog 5 [] (.c (.one (.val (.bool true)))):=by
 have hn: ∀k b,mget stE.m k=some b->False:=λk b hb=>by rw[show stE.m=mnew from rfl,wL]at hb;cases hb
 obtain⟨s1,h1⟩:=q1T (q0n.symm.trans run_e);have hc:=ML (D:=[]) (P:=Go.Proofs.Tryz.prog) (pr:=prims tb2) (tb:=locT) (n:=60) (f:=5) (vs:=[]) (SV Lx) (O1 (q32 hm)) hm h1 (λx hx=>by cases hx) (QK []);refine⟨hc.callable,λus w H β hargs _ _ hon=>?_⟩
 have ha:AVs (λ_=>none) H (([]:List V).map (qc [])) us:=by
  match us,hargs with
  |[],_=>exact trivial
  |_::_,h=>exact h.elim
 refine Calls.mono (hc.calls us w H (λ_=>none) ha ⟨λk b hb=>(hn k b hb).elim,λk b hb=>(hn k b hb).elim,λk k' b b' hb=>(hn k b hb).elim⟩ hon λ_ _ _=>rfl) ?_
 rintro e w' ⟨u,H',β1,rfl,hst,hsat,hM⟩
 have hkeep: ∀b,b<w.heap.size->w'.heap[b]?=w.heap[b]?:=λb hb=>hst.keep b hb λk hk=>by
  cases hk2:mget stE.m k with
  |none=>exact absurd hk2 hk
  |some b2=>exact(hn k b2 hk2).elim
 exact⟨u,H',β,rfl,⟨hst.os,hst.tape,hst.output,hst.size,λb hb _=>hkeep b hb,hst.hle,hst.hnew,hst.hon,λk hk=>rfl,λk hk=>by simp[qu]at hk,λk hk=>by simp[qu]at hk⟩,hsat,λk b hb=>by cases hb⟩
end
end Go.Proofs.YtamiaelfnfnegaaGreatDoor.Sx.Kx
