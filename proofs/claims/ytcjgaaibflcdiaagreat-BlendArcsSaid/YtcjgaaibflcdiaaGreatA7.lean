/-
THE STATEMENT BlendArcs, with the laws it rests on. No condition.
-/
import Derived.Test.YtcjgaaibflcdiaaGreatA6
import Derived.Test.YtcjgaaibflcdiaaGreatRows
import Derived.ProofKit

namespace Go.Proofs.YtcjgaaibflcdiaaGreat
open Go Go.Proofs Go.ChangeShapes Go.WideShapes Go.ChangeAt Go.RowKit
theorem own_k : ownKnob Tryz.prog.godebug = none := by kernel_rfl
theorem laid_k : laidOutB Tryz.prog = true := by kernel_rfl
theorem cells_3 : Tryz.prog.cellsOf 3 = 1 := by kernel_rfl
theorem csats_ints {H : Sx.Heap} : ∀ (l : List Int) (vs : List Value), (∀ i, i < l.length → vs[i]? = some (.int .i64 (l.getD i 0))) → Sx.CSats H (l.flatMap (Sx.cellsC (.int .i64))) (vs.take (l.flatMap (Sx.cellsC (.int .i64))).length)
  | [], vs, _ => by simp [Sx.CSats]
  | z :: l, [], h => by have := h 0 (by simp); simp at this
  | z :: l, v :: vs, h => by
    have h0 := h 0 (by simp)
    have h1 : v = .int .i64 z := by simpa using h0
    have ih := csats_ints (H := H) l vs fun i hi => by have := h (i + 1) (by simp; omega); simpa using this
    show Sx.CSats H (.val (.int .i64 z) :: l.flatMap (Sx.cellsC (.int .i64))) ((v :: vs).take ((l.flatMap (Sx.cellsC (.int .i64))).length + 1))
    rw [List.take_succ_cons]
    exact ⟨⟨h1, rfl⟩, ih⟩
theorem run_true {f : FuncId} {l : List Int} {k : Int} (hs : Sx.Sig Tryz.prog f (Sx.argsE [.sl (.int .i64), .int .i64] (l, k)) (Sx.WV.c (.one (.vl (.bool true)))).exp) {W : World} {v0 : Value} {H : Sx.Heap} (hon : Sx.Heap.On H W)
    (h0 : (Sx.flP (l.flatMap (Sx.cellsC (.int .i64))) l.length).p H v0) : Calls Tryz.prog f #[v0, .int .i64 k] W fun e W' => e = .returned (.bool true) ∧ Below W.heap.size W W' := by
  have h := hs.2 [v0, .int .i64 k] W H (fun _ => none) ⟨h0, ⟨rfl, rfl⟩, trivial⟩ (fun p hp => by cases hp) (fun p hp => by cases hp) hon
  refine h.mono fun e W' hw => ?_
  obtain ⟨v, H', β', rfl, hst, hv, _⟩ := hw
  have hv2 : v = .bool true := hv.1
  refine ⟨by rw [hv2], ⟨hst.os, hst.tape, hst.output, hst.size, fun k hk => hst.keep k hk (fun q hq => by simp [Sx.kwOf] at hq)⟩⟩
theorem wf_abs {n : Int} (h : (Lit.int .i64 n).wf = true) : n.natAbs ≤ 9223372036854775808 := by
  simp [Lit.wf, IntKind.min, IntKind.max, IntKind.signed, IntKind.bits] at h
  omega
theorem read_ints {H : Type} {enc : TypeId × Value → H} {W : World} {a0 : Option Addr} {len cap fuel : Nat} {x : DataW H × List MemPlace} (hf : DataW.trod enc Tryz.prog W 0 (fun _ => true) true fuel 22 [.slice a0 len cap] = some x) :
    ∃ (l : List Int) (Hh : Sx.Heap), Sx.Heap.On Hh W ∧ (Sx.flP (l.flatMap (Sx.cellsC (.int .i64))) l.length).p Hh (.slice a0 len cap) ∧ l.length ≤ 9223372036854775807 ∧ ∀ n ∈ l, n.natAbs ≤ 9223372036854775808 := by
  rcases open_ints Tryz.underlying22 Tryz.underlying3 cells_3 hf with ⟨hcs, hx⟩ | ⟨a, len', cap', zs, hcs, _, hl, hm, hz, hx, hcell, hwz⟩
  · simp at hcs
    obtain ⟨rfl, rfl, rfl⟩ := hcs
    exact ⟨[], fun _ => none, (fun b cs h => by cases h), ⟨none, 0, rfl, Nat.le_refl 0, .inl rfl⟩, by simp, by simp⟩
  · simp at hcs
    obtain ⟨rfl, rfl, rfl⟩ := hcs
    simp only [if_true] at hz
    have hb : ∀ n ∈ zs.take len, n.natAbs ≤ 9223372036854775808 := fun n hn => wf_abs (hwz n (List.mem_of_mem_take hn))
    have hm2 : cap ≤ 9223372036854775807 := hm
    have hll : (zs.take len).length = len := by rw [List.length_take]; omega
    by_cases hlen : len = 0
    · subst hlen
      exact ⟨[], fun _ => none, (fun b cs h => by cases h), ⟨some a, cap, rfl, by omega, .inl rfl⟩, by simp, by simp⟩
    · have c0 := hcell 0 (by omega)
      obtain ⟨b, off, sp⟩ := a
      have ⟨arr, T, fz, hh, hsp⟩ : ∃ arr T fz, W.heap[b]? = some (.cells arr T fz) ∧ sp = none := by
        simp only [Addr.add, if_true, World.cell?] at c0
        split at c0
        · rename_i c T fz hh
          refine ⟨c, T, fz, hh, ?_⟩
          cases sp with
          | none => rfl
          | some s => simp at c0
        · cases c0
      subst hsp
      refine ⟨zs.take len, fun q => if q = b then some arr else none, fun q cs h => ?_, ⟨some ⟨b, off, none⟩, cap, by rw [hll], by omega, .inr ⟨b, off, arr, rfl, by simp, ?_⟩⟩, by omega, hb⟩
      · simp only at h
        split at h
        · rename_i e; subst e; cases h; exact ⟨T, fz, hh⟩
        · cases h
      · refine csats_ints _ _ fun i hi => ?_
        rw [hll] at hi
        have ci := hcell i (by omega)
        have e1 : W.cell? (Addr.add ⟨b, off, none⟩ i) = arr[off + i]? := by
          by_cases e : i = 0
          · subst e; simp [Addr.add, World.cell?, hh]
          · simp [Addr.add, World.cell?, hh, e]
        rw [e1] at ci
        rw [List.getElem?_drop, Array.getElem?_toList, ci]
        congr 2
        simp [List.getD_eq_getElem?_getD, hi]
set_option maxRecDepth 100000 in
theorem arcs_lifted (os : Os) (started : os.Started) (H : Type) (enc : TypeId × Value → H) :
    ReturnsInHanded {} Tryz.checked os 3 .any (Rows.blendArcsSpec.pre6 enc Tryz.prog Tryz.f3 Rows.blendArcsRow.domain false) (Rows.blendArcsSpec.post enc Tryz.prog Tryz.f3 false true false false) := by
  refine returnsInHanded_of_change (C := Tryz.checked) own_k started (by kernel_rfl) Tryz.func3
    (ChangeSpec.witness6 (enc := enc) (C := Tryz.checked) false ⟨#[], #[.slice none 0 0, .int .i64 0], []⟩ 8 (by kernel_rfl) (by kernel_rfl) (by kernel_rfl) (by kernel_rfl)) ?_
  intro W base args ds gs before hval0 hW hcnd _
  have hval : ∀ (j : Nat) t v, Tryz.f3.params[j]? = some t → args[j]? = some v → Value.okWide Tryz.prog W .any base t v := hval0
  have hW' := hW
  obtain ⟨p, q, hA0, hV, rfl, hfz, hnd⟩ := hW
  have hA : DataW.TrodAll enc Tryz.prog W 0 (fun _ => true) true Tryz.f3.params.toList args.toList ds p := hA0
  rw [Tryz.params3] at hA hval
  obtain ⟨v0, v1, d0, d1, p0, p1, rfl, rfl, rfl, h0, h1⟩ := trodAll_two hA
  obtain ⟨rfl, rfl⟩ := trodVars_none hV
  obtain ⟨k, rfl, rfl, rfl, wk⟩ := open_int Tryz.underlying3 (hval 1 3 v1 rfl rfl) h1
  obtain ⟨a0, len, cap, rfl⟩ := okWide_slice Tryz.underlying22 (hval 0 22 v0 rfl rfl)
  have h0k := h0
  obtain ⟨fuel, hf⟩ := h0
  clear hA0 hval0
  simp only [List.append_nil] at hW'
  have hlt : ∀ x ∈ p0, x.block < W.heap.size := fun x hx => by simpa using hW'.lt x hx
  obtain ⟨l, Hh, hon, hp0, hl, hb⟩ := read_ints (by simpa [Value.cells] using hf)
  refine (run_true (Sx.larcs_sig l k ⟨⟨hl, hb⟩, wf_abs wk⟩ (by intro c hc; cases hc)) hon hp0).mono fun e W' hh => ?_
  obtain ⟨rfl, hbl⟩ := hh
  refine ⟨_, rfl, _, _, _, [], p0 ++ [], [], hW', ?_, ?_, ?_, hbl.frame _, fun h => by cases h⟩
  · exact trodAll_mk1 (shut_bool Tryz.underlying4 true)
  · exact trodAll_mk2 (Below.trod laid_k (by kernel_rfl) (of_decide_eq_true (by kernel_rfl)) h0k hbl hlt) (shut_int Tryz.underlying3 wk)
  · rfl
theorem blendArcs_holds : Rows.BlendArcsSaid :=
  OpenClaim.holds_of_wide 3 Tryz.f3 rfl rfl rfl rfl rfl rfl rfl ⟨rfl, rfl, rfl, rfl, rfl⟩ rfl rfl rfl rfl rfl (by kernel_rfl) Tryz.func3 (by kernel_rfl)
    (of_decide_eq_true (by kernel_rfl)) (by unfold Func.isWrapper; first | (rw [if_pos (by decide +kernel)]; kernel_rfl) | (rw [if_neg (by decide +kernel)]; exact ⟨rfl, rfl⟩))
    (fun os started H enc _ => arcs_lifted os started H enc)
#print axioms blendArcs_holds
end Go.Proofs.YtcjgaaibflcdiaaGreat
