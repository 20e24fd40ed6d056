/-
THE STATEMENT PanelsGrids, with the laws it rests on. No condition.
-/
import Derived.Test.YteeamcbonfkjcaaGreatG8
import Derived.Test.YteeamcbonfkjcaaGreatRows

namespace Go.Proofs.YteeamcbonfkjcaaGreat
open Go Go.Proofs Go.ChangeShapes Go.WideShapes Go.ChangeAt Go.RowKit
theorem PJ{f:FuncId}{l:List Int}{k:Int}(hs:Sx.Sig Tryz.prog f (Sx.argsE [.sl (.int .i64),.int .i64] (l,k)) (Sx.WV.c (.one (.vl (.bool true)))).exp){W:World}{v0:Value}{H:Sx.Heap}(hon:Sx.Heap.On H W)
  (h0:(Sx.flP (l.flatMap (Sx.cellsC (.int .i64))) l.length).p H v0):Calls Tryz.prog f #[v0,.int .i64 k] W fun e W'=>e= .returned (.bool true)∧Below W.heap.size W W':=by
 have h:=hs.2 [v0,.int .i64 k] W H (fun _=>none) ⟨h0,⟨rfl,rfl⟩,trivial⟩ (fun p hp=>by cases hp) (fun p hp=>by cases hp) hon
 refine h.mono fun e W' hw=>?_
 obtain⟨v,H',β',rfl,hst,hv,_⟩:=hw
 have hv2:v= .bool true:=hv.1
 refine⟨by rw[hv2],⟨hst.os,hst.tape,hst.output,hst.size,fun k hk=>hst.keep k hk (fun q hq=>by simp[Sx.kwOf]at hq)⟩⟩
set_option maxRecDepth 100000 in
theorem Eo(os:Os)(started:os.Started)(H:Type)(enc:TypeId×Value→H):
  ReturnsInHanded {} Tryz.checked os 3 .any (Rows.panelsGridsSpec.pre6 enc Tryz.prog Tryz.f3 Rows.panelsGridsRow.domain false) (Rows.panelsGridsSpec.post enc Tryz.prog Tryz.f3 false true false false):=by
 refine returnsInHanded_of_change (C:= Tryz.checked) q5w started (by kernel_rfl) Tryz.func3
  (ChangeSpec.witness6 (enc:=enc) (C:= Tryz.checked) false ⟨#[],#[.slice none 0 0,.int .i64 0],[]⟩ 8 (by kernel_rfl) (by kernel_rfl) (by kernel_rfl) (by kernel_rfl)) ?_
 intro W base args ds gs before hval0 hW hcnd _
 have hval: ∀(j:Nat) t v,Tryz.f3.params[j]?=some t→args[j]?=some v→Value.okWide Tryz.prog W .any base t v:=hval0
 have hW':=hW
 obtain⟨p,q,hA0,hV,rfl,hfz,hnd⟩:=hW
 have hA:DataW.TrodAll enc Tryz.prog W 0 (fun _=>true) true Tryz.f3.params.toList args.toList ds p:=hA0
 rw[Tryz.params3]at hA hval
 obtain⟨v0,v1,d0,d1,p0,p1,rfl,rfl,rfl,h0,h1⟩:=trodAll_two hA
 obtain⟨rfl,rfl⟩:=trodVars_none hV
 obtain⟨k,rfl,rfl,rfl,wk⟩:=open_int Tryz.underlying3 (hval 1 3 v1 rfl rfl) h1
 obtain⟨a0,len,cap,rfl⟩:=okWide_slice Tryz.underlying22 (hval 0 22 v0 rfl rfl)
 have h0k:=h0
 obtain⟨fuel,hf⟩:=h0
 clear hA0 hval0
 simp only[List.append_nil]at hW'
 have hlt: ∀x∈p0,x.block<W.heap.size:=fun x hx=>by simpa using hW'.lt x hx
 obtain⟨l,Hh,hon,hp0,hl,hb⟩:=PA (by simpa[Value.cells]using hf)
 refine(PJ (Sx.lgrids_k.sig (l,k) ⟨⟨hl,hb⟩,Q4 wk⟩ (by intro c hc;cases hc)) hon hp0).mono fun e W' hh=>?_
 obtain⟨rfl,hbl⟩:=hh
 refine⟨_,rfl,_,_,_,[],p0++[],[],hW',?_,?_,?_,hbl.frame _,fun h=>by cases h⟩
 ·exact trodAll_mk1 (shut_bool Tryz.underlying4 true)
 ·exact trodAll_mk2 (Below.trod q1f (by kernel_rfl) (of_decide_eq_true (by kernel_rfl)) h0k hbl hlt) (shut_int Tryz.underlying3 wk)
 ·rfl
theorem panelsGrids_holds:Rows.PanelsGridsSaid:=
 OpenClaim.holds_of_wide 3 Tryz.f3 rfl rfl rfl rfl rfl rfl rfl ⟨rfl,rfl,rfl,rfl,rfl⟩ rfl rfl rfl rfl rfl (by kernel_rfl) Tryz.func3 (by kernel_rfl)
  (of_decide_eq_true (by kernel_rfl)) (by unfold Func.isWrapper;first|(rw[if_pos (by decide+kernel)];kernel_rfl)|(rw[if_neg (by decide+kernel)];exact⟨rfl,rfl⟩))
  (fun os started H enc _=>Eo os started H enc)
#print axioms panelsGrids_holds
end Go.Proofs.YteeamcbonfkjcaaGreat
