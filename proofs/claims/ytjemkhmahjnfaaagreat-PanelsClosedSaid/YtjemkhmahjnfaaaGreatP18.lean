/-
THE STATEMENT PanelsClosed, with the laws it rests on. No condition.
-/
import Derived.Test.YtjemkhmahjnfaaaGreatP17
import Derived.Test.YtjemkhmahjnfaaaGreatRows

namespace Go.Proofs.YtjemkhmahjnfaaaGreat
open Go Go.Proofs Go.ChangeShapes Go.WideShapes Go.ChangeAt Go.RowKit
set_option maxRecDepth 100000 in
theorem Et(os:Os)(started:os.Started)(H:Type)(enc:TypeId×Value→H):
  ReturnsInHanded {} Tryz.checked os 4 .any (Rows.panelsClosedSpec.pre6 enc Tryz.prog Tryz.f4 Rows.panelsClosedRow.domain false) (Rows.panelsClosedSpec.post enc Tryz.prog Tryz.f4 false true false false):=by
 refine returnsInHanded_of_change (C:= Tryz.checked) q0K started (by kernel_rfl) Tryz.func4
  (ChangeSpec.witness6 (enc:=enc) (C:= Tryz.checked) false ⟨#[],#[.slice none 0 0],[]⟩ 8 (by kernel_rfl) (by kernel_rfl) (by kernel_rfl) (by kernel_rfl)) ?_
 intro W base args ds gs before hval0 hW hcnd _
 have hval: ∀(j:Nat) t v,Tryz.f4.params[j]?=some t→args[j]?=some v→Value.okWide Tryz.prog W .any base t v:=hval0
 have hW':=hW
 obtain⟨p,q,hA0,hV,rfl,hfz,hnd⟩:=hW
 have hA:DataW.TrodAll enc Tryz.prog W 0 (fun _=>true) true Tryz.f4.params.toList args.toList ds p:=hA0
 rw[Tryz.params4]at hA hval
 obtain⟨v0,d0,rfl,rfl,h0⟩:=trodAll_one hA
 obtain⟨rfl,rfl⟩:=trodVars_none hV
 obtain⟨a0,len,cap,rfl⟩:=okWide_slice Tryz.underlying22 (hval 0 22 v0 rfl rfl)
 have h0k:=h0
 obtain⟨fuel,hf⟩:=h0
 clear hA0 hval0
 simp only[List.append_nil]at hW'
 have hlt: ∀x∈p,x.block<W.heap.size:=fun x hx=>by simpa using hW'.lt x hx
 obtain⟨l,Hh,hon,hp0,hl,hb⟩:=RN (by simpa[Value.cells]using hf)
 refine(RY (Sx.Kx.lclos_sig l ⟨hl,hb⟩ (by intro c hc;cases hc)) hon hp0).mono fun e W' hh=>?_
 obtain⟨rfl,hbl⟩:=hh
 refine⟨_,rfl,_,_,_,[],p,[],hW',?_,?_,?_,hbl.frame _,fun h=>by cases h⟩
 ·exact trodAll_mk1 (shut_bool Tryz.underlying4 true)
 ·exact trodAll_mk1 (Below.trod YA (by kernel_rfl) (of_decide_eq_true (by kernel_rfl)) h0k hbl hlt)
 ·rfl
theorem panelsClosed_holds:Rows.PanelsClosedSaid:=
 OpenClaim.holds_of_wide 4 Tryz.f4 rfl rfl rfl rfl rfl rfl rfl ⟨rfl,rfl,rfl,rfl,rfl⟩ rfl rfl rfl rfl rfl (by kernel_rfl) Tryz.func4 (by kernel_rfl)
  (of_decide_eq_true (by kernel_rfl)) (by unfold Func.isWrapper;first|(rw[if_pos (by decide+kernel)];kernel_rfl)|(rw[if_neg (by decide+kernel)];exact⟨rfl,rfl⟩))
  (fun os started H enc _=>Et os started H enc)
#print axioms panelsClosed_holds
end Go.Proofs.YtjemkhmahjnfaaaGreat
