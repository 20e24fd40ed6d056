/-
Own laws and walks for the claim, part 6: WAr2, WEl, WEq1, WLw1, WLw2, WFc, WGl, WLw3. No condition.
-/
import Derived.Test.YtcjgaaibflcdiaaGreatB5
import Derived.ProofKit

namespace Go.Proofs.YtcjgaaibflcdiaaGreat.Sx
open Go Go.Proofs
set_option linter.unusedVariables false
set_option linter.unusedSimpArgs false
set_option maxRecDepth 20000
set_option maxHeartbeats 4000000
abbrev azero_R (b : List Bd) (e : Int) : WV := .tup [.agg [.dt tCurve (bCurve 4000) (0, [], [])], .agg [.dt tV3 (bV3 4000) (0, 0, 0)], .agg [.dt (.pr .rat .rat) (.p (.n 2000000) (.n 2000000)) (0, 0)], .one (.dt (.int .i64) (b0 b) e)]
theorem azero_ok (b : List Bd) (e : Int) (hx : Bnds [(.int .i64)] b e) (hp : ∀ c0 ∈ ([] : List Prop), c0) : (azero_R b e).ok := tup_cons (agg_ok zeroA_b.1) (tup_cons (agg_ok zeroA_b.2.1) (tup_cons (agg_ok zeroA_b.2.2) (tup_cons (one_ok (Bnds.h1 hx) rfl) tup_nil)))
theorem azero_sig (e : Int) (hx : Bnds [(.int .i64)] [(.n 16)] e) (hp : ∀ c0 ∈ ([] : List Prop), c0) : Sig Tryz.prog 45 (argsE [(.int .i64)] e) (azero_R [(.n 16)] e).exp := by
  have hx0 : Int.natAbs e ≤ 16 := hx
  exact sigW hmix Tryz.func45 rfl rfl (by decide) (n := 10) (G := []) hx rfl rfl (azero_ok _ e hx hp) (.nil) (kcast (by kernel_rfl) (And.intro (rfl : (0, [], []) = ((0, [], []) : Curve)) (And.intro (rfl : (0, 0, 0) = ((0, 0, 0) : V3)) (And.intro (rfl : (0, 0) = ((0, 0) : Rat × Rat)) (rfl : e = e)))))
def azero_c : Ctr Tryz.prog := ⟨45, [(.int .i64)], [(.n 16)], fun z => [], fun b z => azero_R b z, fun z hx hp => azero_sig z hx hp, fun _ _ => rfl, fun b z hx hp => azero_ok b z hx hp⟩
abbrev aArc_R (b : List Bd) (p : Rat × Rat × Rat) (d : Rat × Rat × Rat) (e : Rat × Rat × Rat) (k : Int) : WV := .tup [.agg [.dt tCurve (bCurve 4000) (arcR p d e k).1], .agg [.dt tV3 (bV3 4000) (arcR p d e k).2.1], .agg [.dt (.pr .rat .rat) (.p (.n 2000000) (.n 2000000)) (arcR p d e k).2.2.1], .one (.dt (.int .i64) (.n 16) (arcR p d e k).2.2.2)]
theorem aArc_ok (b : List Bd) (p : Rat × Rat × Rat) (d : Rat × Rat × Rat) (e : Rat × Rat × Rat) (k : Int) (hx : Bnds [(.pr .rat (.pr .rat .rat)), (.pr .rat (.pr .rat .rat)), (.pr .rat (.pr .rat .rat)), (.int .i64)] b (p, d, e, k)) (hp : ∀ c0 ∈ ([Bnd tV3 (bV3 16) p, Bnd tV3 (bV3 16) d, Bnd tV3 (bV3 16) e] : List Prop), c0) : (aArc_R b p d e k).ok := (by have b := arcR_b (k := k) (hp _ List.mem_cons_self) (hp _ (List.mem_cons_of_mem _ List.mem_cons_self)) (hp _ (List.mem_cons_of_mem _ (List.mem_cons_of_mem _ List.mem_cons_self))); exact tup_cons (agg_ok b.1) (tup_cons (agg_ok b.2.1) (tup_cons (agg_ok b.2.2.1) (tup_cons (one_ok b.2.2.2 rfl) tup_nil))))
theorem aArc_sig (p : Rat × Rat × Rat) (d : Rat × Rat × Rat) (e : Rat × Rat × Rat) (k : Int) (hx : Bnds [(.pr .rat (.pr .rat .rat)), (.pr .rat (.pr .rat .rat)), (.pr .rat (.pr .rat .rat)), (.int .i64)] [(.p (.n 16) (.p (.n 16) (.n 16))), (.p (.n 16) (.p (.n 16) (.n 16))), (.p (.n 16) (.p (.n 16) (.n 16))), (.n 9223372036854775808)] (p, d, e, k)) (hp : ∀ c0 ∈ ([Bnd tV3 (bV3 16) p, Bnd tV3 (bV3 16) d, Bnd tV3 (bV3 16) e] : List Prop), c0) : Sig Tryz.prog 13 (argsE [(.pr .rat (.pr .rat .rat)), (.pr .rat (.pr .rat .rat)), (.pr .rat (.pr .rat .rat)), (.int .i64)] (p, d, e, k)) (aArc_R [(.p (.n 16) (.p (.n 16) (.n 16))), (.p (.n 16) (.p (.n 16) (.n 16))), (.p (.n 16) (.p (.n 16) (.n 16))), (.n 9223372036854775808)] p d e k).exp := by
  have hx3 : Int.natAbs k ≤ 9223372036854775808 := hx.2.2.2
  have hp0 : Bnd tV3 (bV3 16) p := hp _ (List.mem_cons_self)
  have hp1 : Bnd tV3 (bV3 16) d := hp _ (List.mem_cons_of_mem _ (List.mem_cons_self))
  have hp2 : Bnd tV3 (bV3 16) e := hp _ (List.mem_cons_of_mem _ (List.mem_cons_of_mem _ (List.mem_cons_self)))
  exact sigW hmix Tryz.func13 rfl rfl (by decide) (n := 136) (G := [(45, .c azero_c), (46, .c vzerop_c), (47, .c vcrossp_c), (48, .c vdotp_c), (49, .c ablroot_c), (50, .c vscalep_c), (51, .c rsub_c), (52, .c raddp_c), (53, .c rsign_c), (54, .c rquo_c), (55, .c vaddp_c), (56, .c rint_c), (57, .c ocurve_c), (58, .c opoint_c), (59, .c aaround_c)]) hx rfl rfl (aArc_ok _ p d e k hx hp) (.cond (.nil) (.cond (.nil) (.cond (.nil) ((fun (dd : Rat) => (fun (u : Rat) => (fun (f : Rat × Rat × Rat) => (fun (df : Rat) => (fun (w : Rat) => .cond (.nil) (.cond (.nil) (.cond (.nil) (.h 18 6 (.mk (.im .rat (.n 4))) (.h 19 13 (.mk (.im (.pr (.pr .rat (.pr .rat .rat)) .rat) (.p (.p (.n 4000) (.p (.n 4000) (.n 4000))) (.n 4000)))) (.nil)))))) (rootLo ((dd - df) / (dd + dd)) k.toNat)) (dotQ d f)) (scaleV u e)) (rootLo (dd / (dotQ e e)) k.toNat)) (dotQ d d))))) (kcast (by kernel_rfl) (And.intro (fun (h1 : k < 0) => And.intro (by  exact congrArg (fun z : ArcR => z.1) (arc_1 (.inl h1)) : ((0, [], []) : Curve) = (arcR p d e k).1) (And.intro (by  exact congrArg (fun z : ArcR => z.2.1) (arc_1 (.inl h1)) : ((0, 0, 0) : V3) = (arcR p d e k).2.1) (And.intro (by  exact congrArg (fun z : ArcR => z.2.2.1) (arc_1 (.inl h1)) : ((0, 0) : Rat × Rat) = (arcR p d e k).2.2.1) (by  exact congrArg (fun z : ArcR => z.2.2.2) (arc_1 (.inl h1)) : 1 = (arcR p d e k).2.2.2)))) (fun (h2 : ¬ (k < 0)) => And.intro (fun (h3 : 64 < k) => And.intro (by  exact congrArg (fun z : ArcR => z.1) (arc_1 (.inr h3)) : ((0, [], []) : Curve) = (arcR p d e k).1) (And.intro (by  exact congrArg (fun z : ArcR => z.2.1) (arc_1 (.inr h3)) : ((0, 0, 0) : V3) = (arcR p d e k).2.1) (And.intro (by  exact congrArg (fun z : ArcR => z.2.2.1) (arc_1 (.inr h3)) : ((0, 0) : Rat × Rat) = (arcR p d e k).2.2.1) (by  exact congrArg (fun z : ArcR => z.2.2.2) (arc_1 (.inr h3)) : 1 = (arcR p d e k).2.2.2)))) (fun (h4 : ¬ (64 < k)) => And.intro (fun (h5 : decide ((crossQ d e) = (0, 0, 0)) = true) => And.intro (by  exact congrArg (fun z : ArcR => z.1) (arc_2 (by omega) (yd h5)) : ((0, [], []) : Curve) = (arcR p d e k).1) (And.intro (by  exact congrArg (fun z : ArcR => z.2.1) (arc_2 (by omega) (yd h5)) : ((0, 0, 0) : V3) = (arcR p d e k).2.1) (And.intro (by  exact congrArg (fun z : ArcR => z.2.2.1) (arc_2 (by omega) (yd h5)) : ((0, 0) : Rat × Rat) = (arcR p d e k).2.2.1) (by  exact congrArg (fun z : ArcR => z.2.2.2) (arc_2 (by omega) (yd h5)) : 9 = (arcR p d e k).2.2.2)))) (fun (h6 : ¬ (decide ((crossQ d e) = (0, 0, 0)) = true)) => (fun (dd : Rat) (hdd : dd = dotQ d d) => I (by omega : 0 ≤ k) (I (by omega : k ≤ 64) ((fun (u : Rat) (hu : u = rootLo (dd / (dotQ e e)) k.toNat) => (fun (f : Rat × Rat × Rat) (hf : f = scaleV u e) => (fun (df : Rat) (hdf : df = dotQ d f) => I (by omega : 0 ≤ k) (I (by omega : k ≤ 64) ((fun (w : Rat) (hw0 : w = rootLo ((dd - df) / (dd + dd)) k.toNat) => And.intro (fun (h7 : sgnQ u = 0) => And.intro (by subst hw0 hdf hf hu hdd; exact congrArg (fun z : ArcR => z.1) (arc_3 (by omega) (yd' h6) (.inl h7)) : ((0, [], []) : Curve) = (arcR p d e k).1) (And.intro (by subst hw0 hdf hf hu hdd; exact congrArg (fun z : ArcR => z.2.1) (arc_3 (by omega) (yd' h6) (.inl h7)) : ((0, 0, 0) : V3) = (arcR p d e k).2.1) (And.intro (by subst hw0 hdf hf hu hdd; exact congrArg (fun z : ArcR => z.2.2.1) (arc_3 (by omega) (yd' h6) (.inl h7)) : ((0, 0) : Rat × Rat) = (arcR p d e k).2.2.1) (by subst hw0 hdf hf hu hdd; exact congrArg (fun z : ArcR => z.2.2.2) (arc_3 (by omega) (yd' h6) (.inl h7)) : 6 = (arcR p d e k).2.2.2)))) (fun (h8 : ¬ (sgnQ u = 0)) => And.intro (fun (h9 : sgnQ w = 0) => And.intro (by subst hw0 hdf hf hu hdd; exact congrArg (fun z : ArcR => z.1) (arc_3 (by omega) (yd' h6) (.inr h9)) : ((0, [], []) : Curve) = (arcR p d e k).1) (And.intro (by subst hw0 hdf hf hu hdd; exact congrArg (fun z : ArcR => z.2.1) (arc_3 (by omega) (yd' h6) (.inr h9)) : ((0, 0, 0) : V3) = (arcR p d e k).2.1) (And.intro (by subst hw0 hdf hf hu hdd; exact congrArg (fun z : ArcR => z.2.2.1) (arc_3 (by omega) (yd' h6) (.inr h9)) : ((0, 0) : Rat × Rat) = (arcR p d e k).2.2.1) (by subst hw0 hdf hf hu hdd; exact congrArg (fun z : ArcR => z.2.2.2) (arc_3 (by omega) (yd' h6) (.inr h9)) : 6 = (arcR p d e k).2.2.2)))) (fun (h10 : ¬ (sgnQ w = 0)) => And.intro (fun (h11 : quoC (dd + df) ≠ 0) => And.intro (by subst hw0 hdf hf hu hdd; exact congrArg (fun z : ArcR => z.1) (arc_4 (by omega) (yd' h6) (not_or.2 ⟨h8, h10⟩) h11) : ((0, [], []) : Curve) = (arcR p d e k).1) (And.intro (by subst hw0 hdf hf hu hdd; exact congrArg (fun z : ArcR => z.2.1) (arc_4 (by omega) (yd' h6) (not_or.2 ⟨h8, h10⟩) h11) : ((0, 0, 0) : V3) = (arcR p d e k).2.1) (And.intro (by subst hw0 hdf hf hu hdd; exact congrArg (fun z : ArcR => z.2.2.1) (arc_4 (by omega) (yd' h6) (not_or.2 ⟨h8, h10⟩) h11) : ((0, 0) : Rat × Rat) = (arcR p d e k).2.2.1) (by subst hw0 hdf hf hu hdd; exact congrArg (fun z : ArcR => z.2.2.2) (arc_4 (by omega) (yd' h6) (not_or.2 ⟨h8, h10⟩) h11) : 7 = (arcR p d e k).2.2.2)))) (fun (h12 : ¬ (quoC (dd + df) ≠ 0)) => I (rfl : (2, [0, 0, 0, ((1 : Int) : Rat), ((1 : Int) : Rat), ((1 : Int) : Rat)], [(addV p d, ((1 : Int) : Rat)), (p, w), (addV p f, ((1 : Int) : Rat))]).2.2.length = 3) (I (by subst hw0 hdf hf hu hdd; exact (arc_b hp0 hp1 hp2 (by omega)).cv : Bnd tCurve (bCurve 4000) (2, [0, 0, 0, ((1 : Int) : Rat), ((1 : Int) : Rat), ((1 : Int) : Rat)], [(addV p d, ((1 : Int) : Rat)), (p, w), (addV p f, ((1 : Int) : Rat))])) (I (by subst hw0 hdf hf hu hdd; exact (arc_b hp0 hp1 hp2 (by omega)).c : Bnd tV3 (bV3 4000) (addV p (scaleV (dd / (dd + df)) (addV d f)))) (And.intro (by subst hw0 hdf hf hu hdd; exact congrArg (fun z : ArcR => z.1) (arc_5 (by omega) (yd' h6) (not_or.2 ⟨h8, h10⟩) h12) : (2, [0, 0, 0, ((1 : Int) : Rat), ((1 : Int) : Rat), ((1 : Int) : Rat)], [(addV p d, ((1 : Int) : Rat)), (p, w), (addV p f, ((1 : Int) : Rat))]) = (arcR p d e k).1) (And.intro (by subst hw0 hdf hf hu hdd; exact congrArg (fun z : ArcR => z.2.1) (arc_5 (by omega) (yd' h6) (not_or.2 ⟨h8, h10⟩) h12) : addV p (scaleV (dd / (dd + df)) (addV d f)) = (arcR p d e k).2.1) (And.intro (by subst hw0 hdf hf hu hdd; exact congrArg (fun z : ArcR => z.2.2.1) (arc_5 (by omega) (yd' h6) (not_or.2 ⟨h8, h10⟩) h12) : reachV (2, [0, 0, 0, ((1 : Int) : Rat), ((1 : Int) : Rat), ((1 : Int) : Rat)], [(addV p d, ((1 : Int) : Rat)), (p, w), (addV p f, ((1 : Int) : Rat))]) (addV p (scaleV (dd / (dd + df)) (addV d f))) = (arcR p d e k).2.2.1) (by subst hw0 hdf hf hu hdd; exact congrArg (fun z : ArcR => z.2.2.2) (arc_5 (by omega) (yd' h6) (not_or.2 ⟨h8, h10⟩) h12) : 0 = (arcR p d e k).2.2.2)))))))))) (rootLo ((dd - df) / (dd + dd)) k.toNat) rfl))) (dotQ d f) rfl) (scaleV u e) rfl) (rootLo (dd / (dotQ e e)) k.toNat) rfl))) (dotQ d d) rfl)))))
def aArc_c : Ctr Tryz.prog := ⟨13, [(.pr .rat (.pr .rat .rat)), (.pr .rat (.pr .rat .rat)), (.pr .rat (.pr .rat .rat)), (.int .i64)], [(.p (.n 16) (.p (.n 16) (.n 16))), (.p (.n 16) (.p (.n 16) (.n 16))), (.p (.n 16) (.p (.n 16) (.n 16))), (.n 9223372036854775808)], fun z => [Bnd tV3 (bV3 16) z.1, Bnd tV3 (bV3 16) z.2.1, Bnd tV3 (bV3 16) z.2.2.1], fun b z => aArc_R b z.1 z.2.1 z.2.2.1 z.2.2.2, fun z hx hp => aArc_sig z.1 z.2.1 z.2.2.1 z.2.2.2 hx hp, fun _ _ => rfl, fun b z hx hp => aArc_ok b z.1 z.2.1 z.2.2.1 z.2.2.2 hx hp⟩
end Go.Proofs.YtcjgaaibflcdiaaGreat.Sx

namespace Go.Proofs.YtcjgaaibflcdiaaGreat.Sx
open Go
set_option linter.unusedVariables false
structure EqI {α : Type} (l m : List α) (i : Nat) : Prop where
  hl : l.length = m.length
  hi : i ≤ l.length
  ht : l.take i = m.take i
theorem EqI.start {α : Type} {l m : List α} (h : l.length = m.length) : EqI l m 0 := ⟨h, by omega, by simp⟩
theorem EqI.step {α : Type} {l m : List α} {i : Nat} (h : EqI l m i) (d : α) (hi : i < l.length) (he : l.getD i d = m.getD i d) : EqI l m (i + 1) :=
  ⟨h.hl, by omega, by have := h.hl; rw [take_snoc (d := d) hi, take_snoc (d := d) (by omega), h.ht, he]⟩
theorem EqI.fin {α : Type} {l m : List α} {i : Nat} (h : EqI l m i) (hi : ¬ i < l.length) : l = m := by
  have h1 := h.hl
  have := h.ht
  rwa [List.take_of_length_le (by omega), List.take_of_length_le (by omega)] at this
def smallB (x : Rat) : Bool := Nat.blt x.num.natAbs 65536 && Nat.ble x.den 65536
theorem smallB_b {x : Rat} (h : smallB x = true) : Bnd .rat (.n 16) x := by
  unfold smallB at h
  simp only [Bool.and_eq_true] at h
  exact ⟨by have := Nat.le_of_ble_eq_true h.1; exact this, Nat.le_of_ble_eq_true h.2⟩
theorem small3 {x : V3} (h : (smallB x.1 && smallB x.2.1 && smallB x.2.2) = true) : Bnd tV3 (bV3 16) x := by
  simp only [Bool.and_eq_true] at h
  exact ⟨smallB_b h.1.1, smallB_b h.1.2, smallB_b h.2⟩
end Go.Proofs.YtcjgaaibflcdiaaGreat.Sx

namespace Go.Proofs.YtcjgaaibflcdiaaGreat.Sx
open Go Go.Proofs
set_option linter.unusedVariables false
set_option linter.unusedSimpArgs false
set_option maxRecDepth 20000
set_option maxHeartbeats 4000000
end Go.Proofs.YtcjgaaibflcdiaaGreat.Sx

namespace Go.Proofs.YtcjgaaibflcdiaaGreat.Sx
open Go Go.Proofs
set_option linter.unusedVariables false
set_option linter.unusedSimpArgs false
set_option maxRecDepth 20000
set_option maxHeartbeats 4000000
abbrev lsane_R (b : List Bd)  : WV := .c (.one (.vl (.bool true)))
theorem lsane_ok (b : List Bd)  (hx : Bnds [] b ()) (hp : ∀ c0 ∈ ([] : List Prop), c0) : (lsane_R b ).ok := vl_ok rfl
theorem lsane_sig  (hx : Bnds [] [] ()) (hp : ∀ c0 ∈ ([] : List Prop), c0) : Sig Tryz.prog 8 (argsE [] ()) (lsane_R [] ).exp := by
  exact sigW hmix Tryz.func8 rfl rfl (by decide) (n := 50) (G := [(13, .c aArc_c), (16, .c vsamer_c), (17, .c ysame_c), (25, .c ycmp_c), (30, .c dat3_c), (31, .c yint_c), (33, .c yfrac_c)]) hx rfl rfl (lsane_ok _  hx hp) (.cond (.cond (.cond (.cond (.cond (.nil) (.dead)) (.dead)) (.dead)) (.dead)) (.dead)) (kcast (by kernel_rfl) (I (by exact small3 (by decide +kernel) : Bnd tV3 (bV3 16) (0, 0, 0)) (I (by exact small3 (by decide +kernel) : Bnd tV3 (bV3 16) (((1 : Int) : Rat), ((0 : Int) : Rat), ((0 : Int) : Rat))) (I (by exact small3 (by decide +kernel) : Bnd tV3 (bV3 16) (((0 : Int) : Rat), ((1 : Int) : Rat), ((0 : Int) : Rat))) (have hE := (show (arcR (0, 0, 0) (((1 : Int) : Rat), ((0 : Int) : Rat), ((0 : Int) : Rat)) (((0 : Int) : Rat), ((1 : Int) : Rat), ((0 : Int) : Rat)) 1).2.2.2 = 0 from by decide +kernel); have hL := (show (arcR (0, 0, 0) (((1 : Int) : Rat), ((0 : Int) : Rat), ((0 : Int) : Rat)) (((0 : Int) : Rat), ((1 : Int) : Rat), ((0 : Int) : Rat)) 1).1.2.2.length = 3 from by decide +kernel); have hW := (show ((arcR (0, 0, 0) (((1 : Int) : Rat), ((0 : Int) : Rat), ((0 : Int) : Rat)) (((0 : Int) : Rat), ((1 : Int) : Rat), ((0 : Int) : Rat)) 1).1.2.2.getD 1 ((0, 0, 0), 0)).2 = ((1 : Int) : Rat) / ((2 : Int) : Rat) from by decide +kernel); have hM := (show (arcR (0, 0, 0) (((1 : Int) : Rat), ((0 : Int) : Rat), ((0 : Int) : Rat)) (((0 : Int) : Rat), ((1 : Int) : Rat), ((0 : Int) : Rat)) 1).2.1 = (((1 : Int) : Rat), ((1 : Int) : Rat), ((0 : Int) : Rat)) from by decide +kernel); have hS1 := (show cmpQ (arcR (0, 0, 0) (((1 : Int) : Rat), ((0 : Int) : Rat), ((0 : Int) : Rat)) (((0 : Int) : Rat), ((1 : Int) : Rat), ((0 : Int) : Rat)) 1).2.2.1.1 ((1 : Int) : Rat) ≤ 0 from by decide +kernel); have hS2 := (show cmpQ ((1 : Int) : Rat) (arcR (0, 0, 0) (((1 : Int) : Rat), ((0 : Int) : Rat), ((0 : Int) : Rat)) (((0 : Int) : Rat), ((1 : Int) : Rat), ((0 : Int) : Rat)) 1).2.2.1.2 ≤ 0 from by decide +kernel); And.intro (fun (h1 : (arcR (0, 0, 0) (((1 : Int) : Rat), ((0 : Int) : Rat), ((0 : Int) : Rat)) (((0 : Int) : Rat), ((1 : Int) : Rat), ((0 : Int) : Rat)) 1).2.2.2 = 0) => And.intro (fun (h2 : ((((arcR (0, 0, 0) (((1 : Int) : Rat), ((0 : Int) : Rat), ((0 : Int) : Rat)) (((0 : Int) : Rat), ((1 : Int) : Rat), ((0 : Int) : Rat)) 1).1).2).2).length = 3) => I (by omega : 1 < ((((arcR (0, 0, 0) (((1 : Int) : Rat), ((0 : Int) : Rat), ((0 : Int) : Rat)) (((0 : Int) : Rat), ((1 : Int) : Rat), ((0 : Int) : Rat)) 1).1).2).2).length) (And.intro (fun (h3 : decide (((((((arcR (0, 0, 0) (((1 : Int) : Rat), ((0 : Int) : Rat), ((0 : Int) : Rat)) (((0 : Int) : Rat), ((1 : Int) : Rat), ((0 : Int) : Rat)) 1).1).2).2).getD 1 ((0, (0, 0)), 0)).2) = (((1 : Int) : Rat) / ((2 : Int) : Rat))) = true) => And.intro (fun (h4 : decide (((arcR (0, 0, 0) (((1 : Int) : Rat), ((0 : Int) : Rat), ((0 : Int) : Rat)) (((0 : Int) : Rat), ((1 : Int) : Rat), ((0 : Int) : Rat)) 1).2.1) = (((1 : Int) : Rat), ((1 : Int) : Rat), ((0 : Int) : Rat))) = true) => And.intro (fun (h5 : cmpQ (((arcR (0, 0, 0) (((1 : Int) : Rat), ((0 : Int) : Rat), ((0 : Int) : Rat)) (((0 : Int) : Rat), ((1 : Int) : Rat), ((0 : Int) : Rat)) 1).2.2.1).1) ((1 : Int) : Rat) ≤ 0) => (hS2 : cmpQ ((1 : Int) : Rat) (((arcR (0, 0, 0) (((1 : Int) : Rat), ((0 : Int) : Rat), ((0 : Int) : Rat)) (((0 : Int) : Rat), ((1 : Int) : Rat), ((0 : Int) : Rat)) 1).2.2.1).2) ≤ 0)) (fun (h6 : ¬ (cmpQ (((arcR (0, 0, 0) (((1 : Int) : Rat), ((0 : Int) : Rat), ((0 : Int) : Rat)) (((0 : Int) : Rat), ((1 : Int) : Rat), ((0 : Int) : Rat)) 1).2.2.1).1) ((1 : Int) : Rat) ≤ 0)) => (h6 hS1 : False))) (fun (h7 : ¬ (decide (((arcR (0, 0, 0) (((1 : Int) : Rat), ((0 : Int) : Rat), ((0 : Int) : Rat)) (((0 : Int) : Rat), ((1 : Int) : Rat), ((0 : Int) : Rat)) 1).2.1) = (((1 : Int) : Rat), ((1 : Int) : Rat), ((0 : Int) : Rat))) = true)) => (h7 (decide_eq_true hM) : False))) (fun (h8 : ¬ (decide (((((((arcR (0, 0, 0) (((1 : Int) : Rat), ((0 : Int) : Rat), ((0 : Int) : Rat)) (((0 : Int) : Rat), ((1 : Int) : Rat), ((0 : Int) : Rat)) 1).1).2).2).getD 1 ((0, (0, 0)), 0)).2) = (((1 : Int) : Rat) / ((2 : Int) : Rat))) = true)) => (h8 (decide_eq_true hW) : False)))) (fun (h9 : ¬ (((((arcR (0, 0, 0) (((1 : Int) : Rat), ((0 : Int) : Rat), ((0 : Int) : Rat)) (((0 : Int) : Rat), ((1 : Int) : Rat), ((0 : Int) : Rat)) 1).1).2).2).length = 3)) => (h9 hL : False))) (fun (h10 : ¬ ((arcR (0, 0, 0) (((1 : Int) : Rat), ((0 : Int) : Rat), ((0 : Int) : Rat)) (((0 : Int) : Rat), ((1 : Int) : Rat), ((0 : Int) : Rat)) 1).2.2.2 = 0)) => (h10 hE : False)))))))
def lsane_c : Ctr Tryz.prog := ⟨8, [], [], fun z => [], fun b z => lsane_R b , fun z hx hp => lsane_sig  hx hp, fun _ _ => rfl, fun b z hx hp => lsane_ok b  hx hp⟩
end Go.Proofs.YtcjgaaibflcdiaaGreat.Sx

namespace Go.Proofs.YtcjgaaibflcdiaaGreat.Sx
open Go Go.Proofs
set_option linter.unusedVariables false
set_option linter.unusedSimpArgs false
set_option maxRecDepth 20000
set_option maxHeartbeats 4000000
end Go.Proofs.YtcjgaaibflcdiaaGreat.Sx

namespace Go.Proofs.YtcjgaaibflcdiaaGreat
open Go Go.Proofs Go.ChangeShapes Go.WideShapes Go.ChangeAt Go.RowKit
theorem own_k : ownKnob Tryz.prog.godebug = none := by kernel_rfl
theorem laid_k : laidOutB Tryz.prog = true := by kernel_rfl
theorem cells_3 : Tryz.prog.cellsOf 3 = 1 := by kernel_rfl
theorem csats_ints {H : Sx.Heap} : ∀ (l : List Int) (vs : List Value), (∀ i, i < l.length → vs[i]? = some (.int .i64 (l.getD i 0))) → Sx.CSats H (l.flatMap (Sx.cellsC (.int .i64))) (vs.take (l.flatMap (Sx.cellsC (.int .i64))).length)
  | [], vs, _ => by simp [Sx.CSats]
  | z :: l, [], h => by have := h 0 (by simp); simp at this
  | z :: l, v :: vs, h => by
    have h0 := h 0 (by simp)
    have h1 : v = .int .i64 z := by simpa using h0
    have ih := csats_ints (H := H) l vs fun i hi => by have := h (i + 1) (by simp; omega); simpa using this
    show Sx.CSats H (.val (.int .i64 z) :: l.flatMap (Sx.cellsC (.int .i64))) ((v :: vs).take ((l.flatMap (Sx.cellsC (.int .i64))).length + 1))
    rw [List.take_succ_cons]
    exact ⟨⟨h1, rfl⟩, ih⟩
theorem run_trueN {f : FuncId} {l : List Int} {q : IntKind} {k : Nat} (hs : Sx.Sig Tryz.prog f (Sx.argsE [.sl (.int .i64), .nat q] (l, k)) (Sx.WV.c (.one (.vl (.bool true)))).exp) {W : World} {v0 : Value} {H : Sx.Heap} (hon : Sx.Heap.On H W)
    (h0 : (Sx.flP (l.flatMap (Sx.cellsC (.int .i64))) l.length).p H v0) : Calls Tryz.prog f #[v0, .int q k] W fun e W' => e = .returned (.bool true) ∧ Below W.heap.size W W' := by
  have h := hs.2 [v0, .int q k] W H (fun _ => none) ⟨h0, ⟨rfl, rfl⟩, trivial⟩ (fun p hp => by cases hp) (fun p hp => by cases hp) hon
  refine h.mono fun e W' hw => ?_
  obtain ⟨v, H', β', rfl, hst, hv, _⟩ := hw
  have hv2 : v = .bool true := hv.1
  refine ⟨by rw [hv2], ⟨hst.os, hst.tape, hst.output, hst.size, fun k hk => hst.keep k hk (fun q hq => by simp [Sx.kwOf] at hq)⟩⟩
theorem wf_abs {n : Int} (h : (Lit.int .i64 n).wf = true) : n.natAbs ≤ 9223372036854775808 := by
  simp [Lit.wf, IntKind.min, IntKind.max, IntKind.signed, IntKind.bits] at h
  omega
theorem read_ints {H : Type} {enc : TypeId × Value → H} {W : World} {a0 : Option Addr} {len cap fuel : Nat} {x : DataW H × List MemPlace} (hf : DataW.trod enc Tryz.prog W 0 (fun _ => true) true fuel 22 [.slice a0 len cap] = some x) :
    ∃ (l : List Int) (Hh : Sx.Heap), Sx.Heap.On Hh W ∧ (Sx.flP (l.flatMap (Sx.cellsC (.int .i64))) l.length).p Hh (.slice a0 len cap) ∧ l.length ≤ 9223372036854775807 ∧ ∀ n ∈ l, n.natAbs ≤ 9223372036854775808 := by
  rcases open_ints Tryz.underlying22 Tryz.underlying3 cells_3 hf with ⟨hcs, hx⟩ | ⟨a, len', cap', zs, hcs, _, hl, hm, hz, hx, hcell, hwz⟩
  · simp at hcs
    obtain ⟨rfl, rfl, rfl⟩ := hcs
    exact ⟨[], fun _ => none, (fun b cs h => by cases h), ⟨none, 0, rfl, Nat.le_refl 0, .inl rfl⟩, by simp, by simp⟩
  · simp at hcs
    obtain ⟨rfl, rfl, rfl⟩ := hcs
    simp only [if_true] at hz
    have hb : ∀ n ∈ zs.take len, n.natAbs ≤ 9223372036854775808 := fun n hn => wf_abs (hwz n (List.mem_of_mem_take hn))
    have hm2 : cap ≤ 9223372036854775807 := hm
    have hll : (zs.take len).length = len := by rw [List.length_take]; omega
    by_cases hlen : len = 0
    · subst hlen
      exact ⟨[], fun _ => none, (fun b cs h => by cases h), ⟨some a, cap, rfl, by omega, .inl rfl⟩, by simp, by simp⟩
    · have c0 := hcell 0 (by omega)
      obtain ⟨b, off, sp⟩ := a
      have ⟨arr, T, fz, hh, hsp⟩ : ∃ arr T fz, W.heap[b]? = some (.cells arr T fz) ∧ sp = none := by
        simp only [Addr.add, if_true, World.cell?] at c0
        split at c0
        · rename_i c T fz hh
          refine ⟨c, T, fz, hh, ?_⟩
          cases sp with
          | none => rfl
          | some s => simp at c0
        · cases c0
      subst hsp
      refine ⟨zs.take len, fun q => if q = b then some arr else none, fun q cs h => ?_, ⟨some ⟨b, off, none⟩, cap, by rw [hll], by omega, .inr ⟨b, off, arr, rfl, by simp, ?_⟩⟩, by omega, hb⟩
      · simp only at h
        split at h
        · rename_i e; subst e; cases h; exact ⟨T, fz, hh⟩
        · cases h
      · refine csats_ints _ _ fun i hi => ?_
        rw [hll] at hi
        have ci := hcell i (by omega)
        have e1 : W.cell? (Addr.add ⟨b, off, none⟩ i) = arr[off + i]? := by
          by_cases e : i = 0
          · subst e; simp [Addr.add, World.cell?, hh]
          · simp [Addr.add, World.cell?, hh, e]
        rw [e1] at ci
        rw [List.getElem?_drop, Array.getElem?_toList, ci]
        congr 2
        simp [List.getD_eq_getElem?_getD, hi]
end Go.Proofs.YtcjgaaibflcdiaaGreat

namespace Go.Proofs.YtcjgaaibflcdiaaGreat.Sx
open Go
set_option linter.unusedVariables false
theorem reach_p (p d e : V3) (k : Int) : reachV (arcCv p d e k) (arcCen p d e k) = reachV (arcCv (0, 0, 0) d e k) (arcCen (0, 0, 0) d e k) := by
  have key : ∀ (a b c m w : Rat), [((1 : Int) : Rat) * (a + b) - (a + m) * ((1 : Int) : Rat), w * a - (a + m) * w, ((1 : Int) : Rat) * (a + c) - (a + m) * ((1 : Int) : Rat)] = [((1 : Int) : Rat) * (0 + b) - (0 + m) * ((1 : Int) : Rat), w * 0 - (0 + m) * w, ((1 : Int) : Rat) * (0 + c) - (0 + m) * ((1 : Int) : Rat)] := by
    intro a b c m w
    have h1 : ((1 : Int) : Rat) = 1 := rfl
    rw [h1]
    congr 1
    · grind
    · congr 1
      · grind
      · congr 1; grind
  have e1 : ∀ (a b c m w : Rat), subL [((1 : Int) : Rat) * (a + b), w * a, ((1 : Int) : Rat) * (a + c)] (scaleL (a + m) [((1 : Int) : Rat), w, ((1 : Int) : Rat)]) = subL [((1 : Int) : Rat) * (0 + b), w * 0, ((1 : Int) : Rat) * (0 + c)] (scaleL (0 + m) [((1 : Int) : Rat), w, ((1 : Int) : Rat)]) := fun a b c m w => key a b c m w
  have hs : sumL (numsV (arcCv p d e k).2.2) (arcCen p d e k) = sumL (numsV (arcCv (0, 0, 0) d e k).2.2) (arcCen (0, 0, 0) d e k) := by
    have q1 := e1 p.1 d.1 (arcF d e k).1 (arcM d e k * (d.1 + (arcF d e k).1)) (arcW d e k)
    have q2 := e1 p.2.1 d.2.1 (arcF d e k).2.1 (arcM d e k * (d.2.1 + (arcF d e k).2.1)) (arcW d e k)
    have q3 := e1 p.2.2 d.2.2 (arcF d e k).2.2 (arcM d e k * (d.2.2 + (arcF d e k).2.2)) (arcW d e k)
    have r1 : xL (numsV (arcCv p d e k).2.2) (arcCen p d e k).1 (numsV (arcCv p d e k).2.2).1 = xL (numsV (arcCv (0, 0, 0) d e k).2.2) (arcCen (0, 0, 0) d e k).1 (numsV (arcCv (0, 0, 0) d e k).2.2).1 := q1
    have r2 : xL (numsV (arcCv p d e k).2.2) (arcCen p d e k).2.1 (numsV (arcCv p d e k).2.2).2.1 = xL (numsV (arcCv (0, 0, 0) d e k).2.2) (arcCen (0, 0, 0) d e k).2.1 (numsV (arcCv (0, 0, 0) d e k).2.2).2.1 := q2
    have r3 : xL (numsV (arcCv p d e k).2.2) (arcCen p d e k).2.2 (numsV (arcCv p d e k).2.2).2.2.1 = xL (numsV (arcCv (0, 0, 0) d e k).2.2) (arcCen (0, 0, 0) d e k).2.2 (numsV (arcCv (0, 0, 0) d e k).2.2).2.2.1 := q3
    unfold sumL
    rw [r1, r2, r3]
  have hw : wtL (numsV (arcCv p d e k).2.2) = wtL (numsV (arcCv (0, 0, 0) d e k).2.2) := rfl
  unfold reachV reachF qq
  rw [hs, hw]
theorem arc_p (p d e : V3) (k : Int) : (arcR p d e k).2.2 = (arcR (0, 0, 0) d e k).2.2 := by
  unfold arcR
  split
  · rfl
  · split
    · rfl
    · split
      · rfl
      · split
        · rfl
        · show (reachV (arcCv p d e k) (arcCen p d e k), (0 : Int)) = (reachV (arcCv (0, 0, 0) d e k) (arcCen (0, 0, 0) d e k), (0 : Int))
          rw [reach_p]
abbrev rgX (a b : Int) : V3 := ((a : Rat), (b : Rat), ((0 : Int) : Rat))
abbrev rgR (a b : Int) : Rat := ((a * a + b * b : Int) : Rat)
abbrev rgW (a b : Int) (n : Nat) : Rat := ((8 * (a * a + b * b) : Int) : Rat) * (((1 : Int) : Rat) / (((2 ^ n : Nat) : Int) : Rat))
def RightE (r : (Rat × Rat) × Int) (a b : Int) (n : Nat) : Prop := r.2 = 0 ∧ cmpQ r.1.1 (rgR a b) ≤ 0 ∧ cmpQ (rgR a b) r.1.2 ≤ 0 ∧ cmpQ (r.1.2 - r.1.1) (rgW a b n) ≤ 0
instance (r : (Rat × Rat) × Int) (a b : Int) (n : Nat) : Decidable (RightE r a b n) := by unfold RightE; infer_instance
def rightB (a b n : Nat) : Bool := decide (RightE (arcR (0, 0, 0) (rgX (a + 1) b) (rgX (-b) (a + 1)) ((n + 2 : Nat) : Int)).2.2 (a + 1) b (n + 2))
theorem right_all : ∀ a, a < 4 → ∀ b, b < 4 → ∀ n, n < 20 → rightB a b n = true := by decide +kernel
theorem right_e {p x y : V3} {a b : Int} {n : Nat} {k : Int} (ha : 1 ≤ a) (ha2 : a ≤ 4) (hb : 0 ≤ b) (hb2 : b ≤ 3) (hn : 2 ≤ n) (hn2 : n ≤ 21) (hx : x = rgX a b) (hy : y = rgX (-b) a) (hk : k = (n : Int)) : RightE (arcR p x y k).2.2 a b n := by
  subst hx; subst hy; subst hk
  rw [arc_p]
  have h := of_decide_eq_true (right_all (a - 1).toNat (by omega) b.toNat (by omega) (n - 2) (by omega))
  rw [show (((a - 1).toNat : Nat) : Int) + 1 = a by omega, show ((b.toNat : Nat) : Int) = b by omega, show n - 2 + 2 = n by omega] at h
  exact h
theorem bi_shl1 {n : Nat} (h : n ≤ 21) : BinIs .shl .i64 1 (n : Int) ((2 ^ n : Nat) : Int) := by
  refine ⟨Int.natCast_nonneg _, ?_⟩
  rw [Int.toNat_natCast]
  have : ∀ n, n < 22 → IntKind.wrap .i64 (1 * 2 ^ (min n (IntKind.bits .i64))) = ((2 ^ n : Nat) : Int) := by decide +kernel
  exact this n (by omega)
theorem pow21 {n : Nat} (h : n ≤ 21) : 2 ^ n ≤ 2097152 := Nat.pow_le_pow_right (n := 2) (by omega) h
theorem int3_b {a b c : Int} (h : a.natAbs < 65536 ∧ b.natAbs < 65536 ∧ c.natAbs < 65536) : Bnd tV3 (bV3 16) ((a : Rat), (b : Rat), (c : Rat)) :=
  ⟨⟨h.1, by show 1 ≤ 2 ^ 16; decide⟩, ⟨h.2.1, by show 1 ≤ 2 ^ 16; decide⟩, ⟨h.2.2, by show 1 ≤ 2 ^ 16; decide⟩⟩
theorem next0 (s : Dice) : 0 ≤ nextV s 4 ∧ nextV s 4 ≤ 3 := by
  unfold nextV; split <;> omega
theorem next1 (s : Dice) : 1 ≤ 1 + nextV s 4 ∧ 1 + nextV s 4 ≤ 4 := by have := next0 s; omega
end Go.Proofs.YtcjgaaibflcdiaaGreat.Sx

namespace Go.Proofs.YtcjgaaibflcdiaaGreat.Sx
open Go Go.Proofs
set_option linter.unusedVariables false
set_option linter.unusedSimpArgs false
set_option maxRecDepth 20000
set_option maxHeartbeats 4000000
abbrev lright_R (b : List Bd) (l : List Int) (k : Nat) : WV := .c (.one (.vl (.bool true)))
theorem lright_ok (b : List Bd) (l : List Int) (k : Nat) (hx : Bnds [(.sl (.int .i64)), (.nat .u8)] b (l, k)) (hp : ∀ c0 ∈ ([] : List Prop), c0) : (lright_R b l k).ok := vl_ok rfl
theorem lright_sig (l : List Int) (k : Nat) (hx : Bnds [(.sl (.int .i64)), (.nat .u8)] [(.s 9223372036854775807 (.n 9223372036854775808)), (.n 255)] (l, k)) (hp : ∀ c0 ∈ ([] : List Prop), c0) : Sig Tryz.prog 5 (argsE [(.sl (.int .i64)), (.nat .u8)] (l, k)) (lright_R [(.s 9223372036854775807 (.n 9223372036854775808)), (.n 255)] l k).exp := by
  have hl0 : l.length ≤ 9223372036854775807 := hx.1.1
  have he0 : ∀ u ∈ l, Bnd (.int .i64) (.n 9223372036854775808) u := hx.1.2
  have hx1 : k ≤ 255 := hx.2
  exact sigW hmix Tryz.func5 rfl rfl (by decide) (n := 101) (G := [(7, .c light_c), (8, .c lsane_c), (9, .o droll_c), (10, .b dspot_c), (13, .c aArc_c), (18, .b dnext_c), (25, .c ycmp_c), (30, .c dat3_c), (31, .c yint_c), (32, .c ymul_c), (33, .c yfrac_c), (34, .c ysub_c)]) hx rfl rfl (lright_ok _ l k hx hp) (.cond (.nil) (.pre 3 (.bd 0 (.s 1048576 (.n 9223372036854775808))) ((fun (a : Int) => (fun (b : Int) => (fun (X : Rat × Rat × Rat) => (fun (Y : Rat × Rat × Rat) => (fun (m : Nat) => (fun (P : Rat × Rat × Rat) => .h 9 11 (.i (.n (2 ^ m) 2097152)) (.cond (.cond (.cond (.cond (.nil) (.dead)) (.dead)) (.dead)) (.dead))) (spotV (nextS (nextS (l, 0))))) (2 + (k % 20))) (((-b : Int) : Rat), ((a : Int) : Rat), ((0 : Int) : Rat))) (((a : Int) : Rat), ((b : Int) : Rat), ((0 : Int) : Rat))) (nextV (nextS (l, 0)) 4)) (1 + (nextV (l, 0) 4))))) (kcast (by kernel_rfl) (And.intro (fun (h1 : (!(decide (l.length ≤ 500))) = true) => trivial) (fun (h2 : ¬ ((!(decide (l.length ≤ 500))) = true)) => have hl5 := (nd' h2 : l.length ≤ 500); I (⟨by omega, he0⟩ : Bnd (.sl (.int .i64)) (.s 1048576 (.n 9223372036854775808)) l) (I (by omega : (0 : Int) < 4) ((fun (a : Int) (ha0 : a = 1 + (nextV (l, 0) 4)) => I (by omega : (0 : Int) < 4) ((fun (b : Int) (hb0 : b = nextV (nextS (l, 0)) 4) => have ha := (show 1 ≤ a ∧ a ≤ 4 from by rw [ha0]; exact next1 _); have hb := (show 0 ≤ b ∧ b ≤ 3 from by rw [hb0]; exact next0 _); (fun (X : Rat × Rat × Rat) (hX0 : X = (((a : Int) : Rat), ((b : Int) : Rat), ((0 : Int) : Rat))) => (fun (Y : Rat × Rat × Rat) (hY0 : Y = (((-b : Int) : Rat), ((a : Int) : Rat), ((0 : Int) : Rat))) => have hX := (show Bnd tV3 (bV3 16) X from by rw [hX0]; exact int3_b (by omega)); have hY := (show Bnd tV3 (bV3 16) Y from by rw [hY0]; exact int3_b (by omega)); (fun (m : Nat) (hm0 : m = 2 + (k % 20)) => have hm := (show 2 ≤ m ∧ m ≤ 21 from by omega); (fun (P : Rat × Rat × Rat) (hP0 : P = spotV (nextS (nextS (l, 0)))) => I ((show Bnd tV3 (bV3 16) P from by rw [hP0]; exact v3_le (spotV_b _) (by omega)) : Bnd tV3 (bV3 16) P) (I (hX : Bnd tV3 (bV3 16) X) (I (hY : Bnd tV3 (bV3 16) Y) (have hE := (right_e (p := P) ha.1 ha.2 hb.1 hb.2 hm.1 hm.2 hX0 hY0 rfl : RightE (arcR P X Y ((m : Nat) : Int)).2.2 a b m); have hp2 := pow21 hm.2; I (bi_shl1 hm.2 : BinIs .shl .i64 1 (m : Int) ((2 ^ m : Nat) : Int)) (I (hp2 : 2 ^ m ≤ 2097152) (And.intro (fun (h3 : (arcR P X Y (m : Int)).2.2.2 = 0) => And.intro (fun (h4 : cmpQ (((arcR P X Y (m : Int)).2.2.1).1) (((a * a) + (b * b) : Int) : Rat) ≤ 0) => And.intro (fun (h5 : cmpQ (((a * a) + (b * b) : Int) : Rat) (((arcR P X Y (m : Int)).2.2.1).2) ≤ 0) => And.intro (fun (h6 : cmpQ ((((arcR P X Y (m : Int)).2.2.1).2) - (((arcR P X Y (m : Int)).2.2.1).1)) (((8 * ((a * a) + (b * b)) : Int) : Rat) * (((1 : Int) : Rat) / ((((2 ^ m : Nat) : Int) : Int) : Rat))) ≤ 0) => trivial) (fun (h7 : ¬ (cmpQ ((((arcR P X Y (m : Int)).2.2.1).2) - (((arcR P X Y (m : Int)).2.2.1).1)) (((8 * ((a * a) + (b * b)) : Int) : Rat) * (((1 : Int) : Rat) / ((((2 ^ m : Nat) : Int) : Int) : Rat))) ≤ 0)) => (h7 hE.2.2.2 : False))) (fun (h8 : ¬ (cmpQ (((a * a) + (b * b) : Int) : Rat) (((arcR P X Y (m : Int)).2.2.1).2) ≤ 0)) => (h8 hE.2.2.1 : False))) (fun (h9 : ¬ (cmpQ (((arcR P X Y (m : Int)).2.2.1).1) (((a * a) + (b * b) : Int) : Rat) ≤ 0)) => (h9 hE.2.1 : False))) (fun (h10 : ¬ ((arcR P X Y (m : Int)).2.2.2 = 0)) => (h10 hE.1 : False)))))))) (spotV (nextS (nextS (l, 0)))) rfl) (2 + (k % 20)) rfl) (((-b : Int) : Rat), ((a : Int) : Rat), ((0 : Int) : Rat)) rfl) (((a : Int) : Rat), ((b : Int) : Rat), ((0 : Int) : Rat)) rfl) (nextV (nextS (l, 0)) 4) rfl)) (1 + (nextV (l, 0) 4)) rfl)))))
end Go.Proofs.YtcjgaaibflcdiaaGreat.Sx
