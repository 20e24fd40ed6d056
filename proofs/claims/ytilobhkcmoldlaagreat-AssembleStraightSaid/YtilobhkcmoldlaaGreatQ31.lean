/-
THE STATEMENT AssembleStraight, with the laws it rests on. No condition.
-/
import Derived.Test.YtilobhkcmoldlaaGreatQ30
import Derived.Test.YtilobhkcmoldlaaGreatRows

namespace Go.Proofs.YtilobhkcmoldlaaGreat
open Go Go.Proofs Go.ChangeShapes Go.WideShapes Go.ChangeAt Go.RowKit
set_option maxRecDepth 100000 in
theorem CV(os:Os)(started:os.Started)(H:Type)(enc:TypeId×Value→H):
  ReturnsInHanded {} Tryz.checked os 3 .any (Rows.assembleStraightSpec.pre6 enc Tryz.prog Tryz.f3 Rows.assembleStraightRow.domain false) (Rows.assembleStraightSpec.post enc Tryz.prog Tryz.f3 false true false false):=by
 refine returnsInHanded_of_change (C:= Tryz.checked) q5l started (by kernel_rfl) Tryz.func3
  (ChangeSpec.witness6 (enc:=enc) (C:= Tryz.checked) false ⟨#[],#[.slice none 0 0],[]⟩ 8 (by kernel_rfl) (by kernel_rfl) (by kernel_rfl) (by kernel_rfl)) ?_
 intro W base args ds gs before hval0 hW hcnd _
 have hval: ∀(j:Nat) t v,Tryz.f3.params[j]?=some t→args[j]?=some v→Value.okWide Tryz.prog W .any base t v:=hval0
 have hW':=hW
 obtain⟨p,q,hA0,hV,rfl,hfz,hnd⟩:=hW
 have hA:DataW.TrodAll enc Tryz.prog W 0 (fun _=>true) true Tryz.f3.params.toList args.toList ds p:=hA0
 rw[Tryz.params3]at hA hval
 obtain⟨v0,d0,rfl,rfl,h0⟩:=trodAll_one hA
 obtain⟨rfl,rfl⟩:=trodVars_none hV
 obtain⟨a0,len,cap,rfl⟩:=okWide_slice Tryz.underlying22 (hval 0 22 v0 rfl rfl)
 have h0k:=h0
 obtain⟨fuel,hf⟩:=h0
 clear hA0 hval0
 simp only[List.append_nil]at hW'
 have hlt: ∀x∈p,x.block<W.heap.size:=fun x hx=>by simpa using hW'.lt x hx
 obtain⟨l,Hh,hon,hp0,hl,hb⟩:=Wi (by simpa[Value.cells]using hf)
 refine(Wq (Sx.Kx.lstr_sig l ⟨hl,hb⟩ (by intro c hc;cases hc)) hon hp0).mono fun e W' hh=>?_
 obtain⟨rfl,hbl⟩:=hh
 refine⟨_,rfl,_,_,_,[],p,[],hW',?_,?_,?_,hbl.frame _,fun h=>by cases h⟩
 ·exact trodAll_mk1 (shut_bool Tryz.underlying4 true)
 ·exact trodAll_mk1 (Below.trod q2R (by kernel_rfl) (of_decide_eq_true (by kernel_rfl)) h0k hbl hlt)
 ·rfl
theorem jf0:(Rows.assembleStraightRow.inPlace== Tryz.prog.inPlace 3)=true:=by kernel_rfl
theorem jf1:(Rows.assembleStraightRow.unfollowed== Tryz.prog.unfollowed 3)=true:=by kernel_rfl
theorem jf2:(Rows.assembleStraightRow.recurses== Tryz.prog.recurses 3)=true:=by kernel_rfl
theorem jf3:(Rows.assembleStraightRow.named== Tryz.prog.varsNamed 3)=true:=by kernel_rfl
theorem jf:joinedFacts Tryz.prog 3 Tryz.f3 Rows.assembleStraightSpec Rows.assembleStraightRow=true:=by
 unfold joinedFacts
 rw[jf0,jf1,jf2,jf3]
 kernel_rfl
theorem assembleStraight_holds:Rows.AssembleStraightSaid:=
 OpenClaim.holds_of_wide 3 Tryz.f3 rfl rfl rfl rfl rfl rfl rfl ⟨rfl,rfl,rfl,rfl,rfl⟩ rfl rfl rfl rfl rfl (by kernel_rfl) Tryz.func3 jf
  (of_decide_eq_true (by kernel_rfl)) (by unfold Func.isWrapper;first|(rw[if_pos (by decide+kernel)];kernel_rfl)|(rw[if_neg (by decide+kernel)];exact⟨rfl,rfl⟩))
  (fun os started H enc _=>CV os started H enc)
#print axioms assembleStraight_holds
end Go.Proofs.YtilobhkcmoldlaaGreat
