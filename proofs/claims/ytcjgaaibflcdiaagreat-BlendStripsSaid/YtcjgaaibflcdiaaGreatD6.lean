/-
Own laws and walks for the claim, part 6: WAr1, WAr2, WEq1, WLw1, WLw2, WGl, WLw3, WKa1, WKa2, WKa3, WKa4, WKb1, WKb2, WKb3, WKb4, WLw4, WJa1, WJa2, WJa3, WJa4, WJl2, WJa5, WJl3, WJa6, WJl4, WJa7, WJm, WEx1, WEx2, WEx3, WEx4, WEx6, WEx7, WJb1, WJb2, WJc1, WJn, WJc2, WJc3, WJc4, WJc5, WJc6, WJc7, WJc8, WJp, WJq. No condition.
-/
import Derived.Test.YtcjgaaibflcdiaaGreatD5
namespace Go.Proofs.YtcjgaaibflcdiaaGreat.Sx
open Go Go.Proofs
set_option linter.unusedVariables false
set_option linter.unusedSimpArgs false
set_option maxRecDepth 20000
set_option maxHeartbeats 4000000
abbrev Me : FI := ⟨49, [.rat, .rat, (.int .i64)], [(.n 7000), (.n 7000), (.n 9223372036854775808)], fun z => (fun (x : Rat) (y : Rat) (k : Int) => [0 ≤ k, k ≤ 64]) z.1 z.2.1 z.2.2, fun b z => (fun (x : Rat) (y : Rat) (k : Int) => .c (.agg [.dt .rat (.n ((b0 b).nb + (b1 b).nb + 130)) (qX (x / y) k.toNat)])) z.1 z.2.1 z.2.2⟩
theorem Mf : Me.OK Tryz.prog := mkF hmix 25 Tryz.func49 rfl rfl (by decide) [(54, .c Fr), (90, .c Ua)] (fun _ => rfl) (fun _ => rfl) (fun _ _ => rfl) (fun (x : Rat) (y : Rat) (k : Int) b hx hp => qT (qg (Au (b := .n ((b0 b).nb + (b1 b).nb)) (wv (Bnds.h3 hx).1 (Bnds.h3 hx).2.1) (by have := hp _ (List.mem_cons_of_mem _ List.mem_cons_self); omega)) (Nat.le_refl _))) (fun (x : Rat) (y : Rat) (k : Int) hx hp => by
 have hx2 : Int.natAbs k ≤ 9223372036854775808 := hx.2.2
 have hp0 : 0 ≤ k := hp _ (List.mem_cons_self)
 have hp1 : k ≤ 64 := hp _ (List.mem_cons_of_mem _ (List.mem_cons_self))
 exact ⟨.nil, kcast (by kernel_rfl) (I (by omega : 0 ≤ k) (I (by omega : k ≤ 64) ((Eq.refl (qX (x / y) k.toNat)))))⟩)
abbrev Md : Ctr Tryz.prog := FI.c Mf
abbrev Mb : FI := ⟨59, [(.pr (.int .i64) (.pr (.sl .rat) (.sl (.pr (.pr .rat (.pr .rat .rat)) .rat)))), (.pr .rat (.pr .rat .rat))], [(.p (.n 6) (.p (.s 6 (.n 4000)) (.s 3 (.p (.p (.n 4000) (.p (.n 4000) (.n 4000))) (.n 4000))))), (.p (.n 4000) (.p (.n 4000) (.n 4000)))], fun z => (fun (c : Int × List Rat × List ((Rat × Rat × Rat) × Rat)) (m : Rat × Rat × Rat) => [c.2.2.length = 3, Bnd qQ (zI 4000) c, Bnd tV3 (bV3 4000) m]) z.1 z.2, fun b z => (fun (c : Int × List Rat × List ((Rat × Rat × Rat) × Rat)) (m : Rat × Rat × Rat) => .c (.agg [.dt (.pr .rat .rat) (.p (.n 2000000) (.n 2000000)) (Bt c m)])) z.1 z.2⟩
theorem Mc : Mb.OK Tryz.prog := mkF hmix 92 Tryz.func59 rfl rfl (by decide) [(54, .c Fr), (103, .c CU), (104, .c SF), (105, .c Wx), (106, .c Pd), (107, .c Wn), (108, .c Wf), (109, .c Oa), (110, .c O9)] (fun _ => rfl) (fun _ => rfl) (fun _ _ => rfl) (fun (c : Int × List Rat × List ((Rat × Rat × Rat) × Rat)) (m : Rat × Rat × Rat) b hx hp => qT (IN (hp _ (List.mem_cons_of_mem _ List.mem_cons_self)) (hp _ List.mem_cons_self) (hp _ (List.mem_cons_of_mem _ (List.mem_cons_of_mem _ List.mem_cons_self))))) (fun (c : Int × List Rat × List ((Rat × Rat × Rat) × Rat)) (m : Rat × Rat × Rat) hx hp => by
 have hp0 : c.2.2.length = 3 := hp _ (List.mem_cons_self)
 exact ⟨(fun (F : List Rat × List Rat × List Rat × List Rat) => (fun (x0 : List Rat) => (fun (x1 : List Rat) => (fun (x2 : List Rat) => .cond (.cond (.cond (.cond (.cond (.cond (.dead) (.nil)) (.dead)) (.dead)) (.dead)) (.dead)) (.dead)) (subL F.2.2.1 (j0 m.2.2 F.2.2.2))) (subL F.2.1 (j0 m.2.1 F.2.2.2))) (subL F.1 (j0 m.1 F.2.2.2))) (zM c.2.2), kcast (by kernel_rfl) (I (by omega : c.2.2.length = 3) ((fun (F : List Rat × List Rat × List Rat × List Rat) (hF : F = zM c.2.2) => have hFl := (show F.1.length = 3 ∧ F.2.1.length = 3 ∧ F.2.2.1.length = 3 ∧ F.2.2.2.length = 3 from by rw [hF]; exact Qj hp0); have hF1 := hFl.1; have hF2 := hFl.2.1; have hF3 := hFl.2.2.1; have hF4 := hFl.2.2.2; I (by rw [vR]; omega : F.1.length = (j0 m.1 F.2.2.2).length) ((fun (x0 : List Rat) (hx_0 : x0 = subL F.1 (j0 m.1 F.2.2.2)) => have hlx0 := (show x0.length = 3 from by rw [hx_0]; exact M1 hF1 hF4); I (by omega : x0.length = 3) (I (by omega : x0.length = 3) (I (by rw [vR]; omega : F.2.1.length = (j0 m.2.1 F.2.2.2).length) ((fun (x1 : List Rat) (hx_1 : x1 = subL F.2.1 (j0 m.2.1 F.2.2.2)) => have hlx1 := (show x1.length = 3 from by rw [hx_1]; exact M1 hF2 hF4); I (by omega : x1.length = 3) (I (by omega : x1.length = 3) (I (by first | rw [j2, j2] | (rw [zf (by rw [j2, j2]), j2, j2]) : (mulL x0 x0).length = (mulL x1 x1).length) (I (by rw [vR]; omega : F.2.2.1.length = (j0 m.2.2 F.2.2.2).length) ((fun (x2 : List Rat) (hx_2 : x2 = subL F.2.2.1 (j0 m.2.2 F.2.2.2)) => have hlx2 := (show x2.length = 3 from by rw [hx_2]; exact M1 hF3 hF4); I (by omega : x2.length = 3) (I (by omega : x2.length = 3) (I (by first | rw [j2, j2] | (rw [zf (by rw [j2, j2]), j2, j2]) : (addL (mulL x0 x0) (mulL x1 x1)).length = (mulL x2 x2).length) (I (by omega : F.2.2.2.length = 3) (I (by omega : F.2.2.2.length = 3) (have hl5 := (show (addL (addL (mulL x0 x0) (mulL x1 x1)) (mulL x2 x2)).length = 5 from by rw [zf (by rw [zf (by rw [j2, j2]), j2, j2]), zf (by rw [j2, j2]), j2]); have hw5 := (j2 F.2.2.2 F.2.2.2); And.intro (fun (h1 : 0 < (addL (addL (mulL x0 x0) (mulL x1 x1)) (mulL x2 x2)).length) => I (by omega : 0 < (addL (addL (mulL x0 x0) (mulL x1 x1)) (mulL x2 x2)).length) (I (by omega : 0 < (mulL F.2.2.2 F.2.2.2).length) (And.intro (fun (h2 : 1 < (addL (addL (mulL x0 x0) (mulL x1 x1)) (mulL x2 x2)).length) => I (by omega : 1 < (addL (addL (mulL x0 x0) (mulL x1 x1)) (mulL x2 x2)).length) (I (by omega : 1 < (mulL F.2.2.2 F.2.2.2).length) (And.intro (fun (h3 : 2 < (addL (addL (mulL x0 x0) (mulL x1 x1)) (mulL x2 x2)).length) => I (by omega : 2 < (addL (addL (mulL x0 x0) (mulL x1 x1)) (mulL x2 x2)).length) (I (by omega : 2 < (mulL F.2.2.2 F.2.2.2).length) (And.intro (fun (h4 : 3 < (addL (addL (mulL x0 x0) (mulL x1 x1)) (mulL x2 x2)).length) => I (by omega : 3 < (addL (addL (mulL x0 x0) (mulL x1 x1)) (mulL x2 x2)).length) (I (by omega : 3 < (mulL F.2.2.2 F.2.2.2).length) (And.intro (fun (h5 : 4 < (addL (addL (mulL x0 x0) (mulL x1 x1)) (mulL x2 x2)).length) => I (by omega : 4 < (addL (addL (mulL x0 x0) (mulL x1 x1)) (mulL x2 x2)).length) (I (by omega : 4 < (mulL F.2.2.2 F.2.2.2).length) (And.intro (fun (h6 : 5 < (addL (addL (mulL x0 x0) (mulL x1 x1)) (mulL x2 x2)).length) => (by omega : False)) (fun (h7 : ¬ (5 < (addL (addL (mulL x0 x0) (mulL x1 x1)) (mulL x2 x2)).length)) => (by subst hx_2 hx_1 hx_0 hF; rfl : (minQ (minQ (minQ (minQ (minQ (((addL (addL (mulL x0 x0) (mulL x1 x1)) (mulL x2 x2)).getD 0 0) / ((mulL F.2.2.2 F.2.2.2).getD 0 0)) (((addL (addL (mulL x0 x0) (mulL x1 x1)) (mulL x2 x2)).getD 0 0) / ((mulL F.2.2.2 F.2.2.2).getD 0 0))) (((addL (addL (mulL x0 x0) (mulL x1 x1)) (mulL x2 x2)).getD 1 0) / ((mulL F.2.2.2 F.2.2.2).getD 1 0))) (((addL (addL (mulL x0 x0) (mulL x1 x1)) (mulL x2 x2)).getD 2 0) / ((mulL F.2.2.2 F.2.2.2).getD 2 0))) (((addL (addL (mulL x0 x0) (mulL x1 x1)) (mulL x2 x2)).getD 3 0) / ((mulL F.2.2.2 F.2.2.2).getD 3 0))) (((addL (addL (mulL x0 x0) (mulL x1 x1)) (mulL x2 x2)).getD 4 0) / ((mulL F.2.2.2 F.2.2.2).getD 4 0)), maxQ (maxQ (maxQ (maxQ (maxQ (((addL (addL (mulL x0 x0) (mulL x1 x1)) (mulL x2 x2)).getD 0 0) / ((mulL F.2.2.2 F.2.2.2).getD 0 0)) (((addL (addL (mulL x0 x0) (mulL x1 x1)) (mulL x2 x2)).getD 0 0) / ((mulL F.2.2.2 F.2.2.2).getD 0 0))) (((addL (addL (mulL x0 x0) (mulL x1 x1)) (mulL x2 x2)).getD 1 0) / ((mulL F.2.2.2 F.2.2.2).getD 1 0))) (((addL (addL (mulL x0 x0) (mulL x1 x1)) (mulL x2 x2)).getD 2 0) / ((mulL F.2.2.2 F.2.2.2).getD 2 0))) (((addL (addL (mulL x0 x0) (mulL x1 x1)) (mulL x2 x2)).getD 3 0) / ((mulL F.2.2.2 F.2.2.2).getD 3 0))) (((addL (addL (mulL x0 x0) (mulL x1 x1)) (mulL x2 x2)).getD 4 0) / ((mulL F.2.2.2 F.2.2.2).getD 4 0))) = Bt c m))))) (fun (h8 : ¬ (4 < (addL (addL (mulL x0 x0) (mulL x1 x1)) (mulL x2 x2)).length)) => (by omega : False))))) (fun (h9 : ¬ (3 < (addL (addL (mulL x0 x0) (mulL x1 x1)) (mulL x2 x2)).length)) => (by omega : False))))) (fun (h10 : ¬ (2 < (addL (addL (mulL x0 x0) (mulL x1 x1)) (mulL x2 x2)).length)) => (by omega : False))))) (fun (h11 : ¬ (1 < (addL (addL (mulL x0 x0) (mulL x1 x1)) (mulL x2 x2)).length)) => (by omega : False))))) (fun (h12 : ¬ (0 < (addL (addL (mulL x0 x0) (mulL x1 x1)) (mulL x2 x2)).length)) => (by omega : False)))))))) (subL F.2.2.1 (j0 m.2.2 F.2.2.2)) rfl))))) (subL F.2.1 (j0 m.2.1 F.2.2.2)) rfl)))) (subL F.1 (j0 m.1 F.2.2.2)) rfl)) (zM c.2.2) rfl))⟩)
abbrev Ma : Ctr Tryz.prog := FI.c Mc
abbrev Sv : FI := ⟨45, [(.int .i64)], [(.n 16)], fun _ => [], fun b z => (fun (e : Int) => .tup [.agg [.dt qQ (zI 4000) (0, [], [])], .agg [.dt tV3 (bV3 4000) (0, 0, 0)], .agg [.dt (.pr .rat .rat) (.p (.n 2000000) (.n 2000000)) (0, 0)], .one (.dt (.int .i64) (b0 b) e)]) z⟩
theorem Sw : Sv.OK Tryz.prog := mkF hmix 10 Tryz.func45 rfl rfl (by decide) [] (fun _ => rfl) (fun _ => rfl) (fun _ _ => rfl) (fun (e : Int) b hx hp => qd (qT Gt.1) (qd (qT Gt.2.1) (qd (qT Gt.2.2) (qd (q9 (Bnds.h1 hx) rfl) qR)))) (fun (e : Int) hx hp => by
 exact ⟨.nil, kcast (by kernel_rfl) (And.intro (rfl : (0, [], []) = ((0, [], []) : qN)) (And.intro (rfl : (0, 0, 0) = ((0, 0, 0) : V3)) (And.intro (rfl : (0, 0) = ((0, 0) : Rat × Rat)) (Eq.refl e))))⟩)
abbrev Su : Ctr Tryz.prog := FI.c Sw
abbrev Wb : FI := ⟨13, [(.pr .rat (.pr .rat .rat)), (.pr .rat (.pr .rat .rat)), (.pr .rat (.pr .rat .rat)), (.int .i64)], [(.p (.n 16) (.p (.n 16) (.n 16))), (.p (.n 16) (.p (.n 16) (.n 16))), (.p (.n 16) (.p (.n 16) (.n 16))), (.n 9223372036854775808)], fun z => (fun (p : Rat × Rat × Rat) (d : Rat × Rat × Rat) (e : Rat × Rat × Rat) (k : Int) => [Bnd tV3 (bV3 16) p, Bnd tV3 (bV3 16) d, Bnd tV3 (bV3 16) e]) z.1 z.2.1 z.2.2.1 z.2.2.2, fun b z => (fun (p : Rat × Rat × Rat) (d : Rat × Rat × Rat) (e : Rat × Rat × Rat) (k : Int) => .tup [.agg [.dt qQ (zI 4000) (arcR p d e k).1], .agg [.dt tV3 (bV3 4000) (arcR p d e k).2.1], .agg [.dt (.pr .rat .rat) (.p (.n 2000000) (.n 2000000)) (arcR p d e k).2.2.1], .one (.dt (.int .i64) (.n 16) (arcR p d e k).2.2.2)]) z.1 z.2.1 z.2.2.1 z.2.2.2⟩
theorem Wc : Wb.OK Tryz.prog := mkF hmix 136 Tryz.func13 rfl rfl (by decide) [(45, .c Su), (46, .c Jd), (47, .c OC), (48, .c Vz), (49, .c Md), (50, .c OG), (51, .c IV), (52, .c zZ), (53, .c Ad), (54, .c Fr), (55, .c KI), (56, .c IQ), (57, .c Qn), (58, .c IC), (59, .c Ma)] (fun _ => rfl) (fun _ => rfl) (fun _ _ => rfl) (fun (p : Rat × Rat × Rat) (d : Rat × Rat × Rat) (e : Rat × Rat × Rat) (k : Int) b hx hp => (by have b := We (k := k) (hp _ List.mem_cons_self) (hp _ (List.mem_cons_of_mem _ List.mem_cons_self)) (hp _ (List.mem_cons_of_mem _ (List.mem_cons_of_mem _ List.mem_cons_self))); exact qd (qT b.1) (qd (qT b.2.1) (qd (qT b.2.2.1) (qd (q9 b.2.2.2 rfl) qR))))) (fun (p : Rat × Rat × Rat) (d : Rat × Rat × Rat) (e : Rat × Rat × Rat) (k : Int) hx hp => by
 have hx3 : Int.natAbs k ≤ 9223372036854775808 := hx.2.2.2
 have hp0 : Bnd tV3 (bV3 16) p := hp _ (List.mem_cons_self)
 have hp1 : Bnd tV3 (bV3 16) d := hp _ (List.mem_cons_of_mem _ (List.mem_cons_self))
 have hp2 : Bnd tV3 (bV3 16) e := hp _ (List.mem_cons_of_mem _ (List.mem_cons_of_mem _ (List.mem_cons_self)))
 exact ⟨.cond (.nil) (.cond (.nil) (.cond (.nil) ((fun (dd : Rat) => (fun (u : Rat) => (fun (f : Rat × Rat × Rat) => (fun (df : Rat) => (fun (w : Rat) => .cond (.nil) (.cond (.nil) (.cond (.nil) (.h 18 6 (.mk (.im .rat (.n 4))) (.h 19 13 (.mk (.im (.pr (.pr .rat (.pr .rat .rat)) .rat) (.p (.p (.n 4000) (.p (.n 4000) (.n 4000))) (.n 4000)))) (.nil)))))) (qX ((dd - df) / (dd + dd)) k.toNat)) (dotQ d f)) (jc u e)) (qX (dd / (dotQ e e)) k.toNat)) (dotQ d d)))), kcast (by kernel_rfl) (And.intro (fun (h1 : k < 0) => And.intro (by  exact congrArg (fun z : ArcR => z.1) (wZ (.inl h1)) : ((0, [], []) : qN) = (arcR p d e k).1) (And.intro (by  exact congrArg (fun z : ArcR => z.2.1) (wZ (.inl h1)) : ((0, 0, 0) : V3) = (arcR p d e k).2.1) (And.intro (by  exact congrArg (fun z : ArcR => z.2.2.1) (wZ (.inl h1)) : ((0, 0) : Rat × Rat) = (arcR p d e k).2.2.1) (by  exact congrArg (fun z : ArcR => z.2.2.2) (wZ (.inl h1)) : 1 = (arcR p d e k).2.2.2)))) (fun (h2 : ¬ (k < 0)) => And.intro (fun (h3 : 64 < k) => And.intro (by  exact congrArg (fun z : ArcR => z.1) (wZ (.inr h3)) : ((0, [], []) : qN) = (arcR p d e k).1) (And.intro (by  exact congrArg (fun z : ArcR => z.2.1) (wZ (.inr h3)) : ((0, 0, 0) : V3) = (arcR p d e k).2.1) (And.intro (by  exact congrArg (fun z : ArcR => z.2.2.1) (wZ (.inr h3)) : ((0, 0) : Rat × Rat) = (arcR p d e k).2.2.1) (by  exact congrArg (fun z : ArcR => z.2.2.2) (wZ (.inr h3)) : 1 = (arcR p d e k).2.2.2)))) (fun (h4 : ¬ (64 < k)) => And.intro (fun (h5 : decide ((zj d e) = (0, 0, 0)) = true) => And.intro (by  exact congrArg (fun z : ArcR => z.1) (EC (by omega) (yd h5)) : ((0, [], []) : qN) = (arcR p d e k).1) (And.intro (by  exact congrArg (fun z : ArcR => z.2.1) (EC (by omega) (yd h5)) : ((0, 0, 0) : V3) = (arcR p d e k).2.1) (And.intro (by  exact congrArg (fun z : ArcR => z.2.2.1) (EC (by omega) (yd h5)) : ((0, 0) : Rat × Rat) = (arcR p d e k).2.2.1) (by  exact congrArg (fun z : ArcR => z.2.2.2) (EC (by omega) (yd h5)) : 9 = (arcR p d e k).2.2.2)))) (fun (h6 : ¬ (decide ((zj d e) = (0, 0, 0)) = true)) => (fun (dd : Rat) (hdd : dd = dotQ d d) => I (by omega : 0 ≤ k) (I (by omega : k ≤ 64) ((fun (u : Rat) (hu : u = qX (dd / (dotQ e e)) k.toNat) => (fun (f : Rat × Rat × Rat) (hf : f = jc u e) => (fun (df : Rat) (hdf : df = dotQ d f) => I (by omega : 0 ≤ k) (I (by omega : k ≤ 64) ((fun (w : Rat) (hw0 : w = qX ((dd - df) / (dd + dd)) k.toNat) => And.intro (fun (h7 : sgnQ u = 0) => And.intro (by subst hw0 hdf hf hu hdd; exact congrArg (fun z : ArcR => z.1) (A1 (by omega) (yd' h6) (.inl h7)) : ((0, [], []) : qN) = (arcR p d e k).1) (And.intro (by subst hw0 hdf hf hu hdd; exact congrArg (fun z : ArcR => z.2.1) (A1 (by omega) (yd' h6) (.inl h7)) : ((0, 0, 0) : V3) = (arcR p d e k).2.1) (And.intro (by subst hw0 hdf hf hu hdd; exact congrArg (fun z : ArcR => z.2.2.1) (A1 (by omega) (yd' h6) (.inl h7)) : ((0, 0) : Rat × Rat) = (arcR p d e k).2.2.1) (by subst hw0 hdf hf hu hdd; exact congrArg (fun z : ArcR => z.2.2.2) (A1 (by omega) (yd' h6) (.inl h7)) : 6 = (arcR p d e k).2.2.2)))) (fun (h8 : ¬ (sgnQ u = 0)) => And.intro (fun (h9 : sgnQ w = 0) => And.intro (by subst hw0 hdf hf hu hdd; exact congrArg (fun z : ArcR => z.1) (A1 (by omega) (yd' h6) (.inr h9)) : ((0, [], []) : qN) = (arcR p d e k).1) (And.intro (by subst hw0 hdf hf hu hdd; exact congrArg (fun z : ArcR => z.2.1) (A1 (by omega) (yd' h6) (.inr h9)) : ((0, 0, 0) : V3) = (arcR p d e k).2.1) (And.intro (by subst hw0 hdf hf hu hdd; exact congrArg (fun z : ArcR => z.2.2.1) (A1 (by omega) (yd' h6) (.inr h9)) : ((0, 0) : Rat × Rat) = (arcR p d e k).2.2.1) (by subst hw0 hdf hf hu hdd; exact congrArg (fun z : ArcR => z.2.2.2) (A1 (by omega) (yd' h6) (.inr h9)) : 6 = (arcR p d e k).2.2.2)))) (fun (h10 : ¬ (sgnQ w = 0)) => And.intro (fun (h11 : quoC (dd + df) ≠ 0) => And.intro (by subst hw0 hdf hf hu hdd; exact congrArg (fun z : ArcR => z.1) (ED (by omega) (yd' h6) (not_or.2 ⟨h8, h10⟩) h11) : ((0, [], []) : qN) = (arcR p d e k).1) (And.intro (by subst hw0 hdf hf hu hdd; exact congrArg (fun z : ArcR => z.2.1) (ED (by omega) (yd' h6) (not_or.2 ⟨h8, h10⟩) h11) : ((0, 0, 0) : V3) = (arcR p d e k).2.1) (And.intro (by subst hw0 hdf hf hu hdd; exact congrArg (fun z : ArcR => z.2.2.1) (ED (by omega) (yd' h6) (not_or.2 ⟨h8, h10⟩) h11) : ((0, 0) : Rat × Rat) = (arcR p d e k).2.2.1) (by subst hw0 hdf hf hu hdd; exact congrArg (fun z : ArcR => z.2.2.2) (ED (by omega) (yd' h6) (not_or.2 ⟨h8, h10⟩) h11) : 7 = (arcR p d e k).2.2.2)))) (fun (h12 : ¬ (quoC (dd + df) ≠ 0)) => I (rfl : (2, [0, 0, 0, ((1 : Int) : Rat), ((1 : Int) : Rat), ((1 : Int) : Rat)], [(addV p d, ((1 : Int) : Rat)), (p, w), (addV p f, ((1 : Int) : Rat))]).2.2.length = 3) (I (by subst hw0 hdf hf hu hdd; exact (KX hp0 hp1 hp2 (by omega)).cv : Bnd qQ (zI 4000) (2, [0, 0, 0, ((1 : Int) : Rat), ((1 : Int) : Rat), ((1 : Int) : Rat)], [(addV p d, ((1 : Int) : Rat)), (p, w), (addV p f, ((1 : Int) : Rat))])) (I (by subst hw0 hdf hf hu hdd; exact (KX hp0 hp1 hp2 (by omega)).c : Bnd tV3 (bV3 4000) (addV p (jc (dd / (dd + df)) (addV d f)))) (And.intro (by subst hw0 hdf hf hu hdd; exact congrArg (fun z : ArcR => z.1) (EE (by omega) (yd' h6) (not_or.2 ⟨h8, h10⟩) h12) : (2, [0, 0, 0, ((1 : Int) : Rat), ((1 : Int) : Rat), ((1 : Int) : Rat)], [(addV p d, ((1 : Int) : Rat)), (p, w), (addV p f, ((1 : Int) : Rat))]) = (arcR p d e k).1) (And.intro (by subst hw0 hdf hf hu hdd; exact congrArg (fun z : ArcR => z.2.1) (EE (by omega) (yd' h6) (not_or.2 ⟨h8, h10⟩) h12) : addV p (jc (dd / (dd + df)) (addV d f)) = (arcR p d e k).2.1) (And.intro (by subst hw0 hdf hf hu hdd; exact congrArg (fun z : ArcR => z.2.2.1) (EE (by omega) (yd' h6) (not_or.2 ⟨h8, h10⟩) h12) : Bt (2, [0, 0, 0, ((1 : Int) : Rat), ((1 : Int) : Rat), ((1 : Int) : Rat)], [(addV p d, ((1 : Int) : Rat)), (p, w), (addV p f, ((1 : Int) : Rat))]) (addV p (jc (dd / (dd + df)) (addV d f))) = (arcR p d e k).2.2.1) (by subst hw0 hdf hf hu hdd; exact congrArg (fun z : ArcR => z.2.2.2) (EE (by omega) (yd' h6) (not_or.2 ⟨h8, h10⟩) h12) : 0 = (arcR p d e k).2.2.2)))))))))) (qX ((dd - df) / (dd + dd)) k.toNat) rfl))) (dotQ d f) rfl) (jc u e) rfl) (qX (dd / (dotQ e e)) k.toNat) rfl))) (dotQ d d) rfl))))⟩)
abbrev Wa : Ctr Tryz.prog := FI.c Wc
abbrev RP : FI := ⟨64, [(.sl .rat), (.sl .rat)], [(.s 1048576 (.n 68719476736)), (.s 1048576 (.n 68719476736))], fun _ => [], fun b z => (fun (p : List Rat) (q : List Rat) => .c (.one (.dt .bool .u (decide (p = q))))) z.1 z.2⟩
theorem RQ : RP.OK Tryz.prog := mkF hmix 27 Tryz.func64 rfl rfl (by decide) [(17, .c wC)] (fun _ => rfl) (fun _ => rfl) (fun _ _ => rfl) (fun (p : List Rat) (q : List Rat) b hx hp => q9 trivial rfl) (fun (p : List Rat) (q : List Rat) hx hp => by
 have hl0 : p.length ≤ 1048576 := hx.1.1
 have hl1 : q.length ≤ 1048576 := hx.2.1
 exact ⟨.cond (.nil) (.loop [.s 5 (.nat .i64) (.n 1048576)] (fun (i : Nat) => EqI p q i) (fun (i : Nat) => p.length - i) (fun (i : Nat) => .nil)), kcast (by kernel_rfl) (And.intro (fun (h1 : p.length ≠ q.length) => (MO h1 : false = decide (p = q))) (fun (h2 : ¬ (p.length ≠ q.length)) => I (EqI.start (by omega) : EqI p q 0) (fun (i : Nat) (hb3 : HB [.s 5 (.nat .i64) (.n 1048576)] i) (hI : EqI p q i) => have hv8 := (show i ≤ 1048576 from hb3); have hIi := hI.hi; have hIl := hI.hl; And.intro (fun (h4 : i < p.length) => I (by omega : i < p.length) (I (by omega : i < q.length) (And.intro (fun (h5 : (!(decide ((p.getD i 0) = (q.getD i 0)))) = true) => (L4 _ (nd h5) : false = decide (p = q))) (fun (h6 : ¬ ((!(decide ((p.getD i 0) = (q.getD i 0)))) = true)) => I (show (i + 1) ≤ 1048576 by omega : Bnd (.nat .i64) (.n 1048576) (i + 1)) (And.intro (hI.step _ (by omega) (nd' h6) : EqI p q (i + 1)) (by omega : p.length - (i + 1) < p.length - i)))))) (fun (h7 : ¬ (i < p.length)) => ((decide_eq_true (hI.fin (by omega))).symm : true = decide (p = q))))))⟩)
abbrev RO : Ctr Tryz.prog := FI.c RQ
abbrev RS : FI := ⟨65, [(.sl (.pr (.pr .rat (.pr .rat .rat)) .rat)), (.sl (.pr (.pr .rat (.pr .rat .rat)) .rat))], [(.s 1048576 (.p (.p (.n 4294967296) (.p (.n 4294967296) (.n 4294967296))) (.n 4294967296))), (.s 1048576 (.p (.p (.n 4294967296) (.p (.n 4294967296) (.n 4294967296))) (.n 4294967296)))], fun _ => [], fun b z => (fun (p : List ((Rat × Rat × Rat) × Rat)) (q : List ((Rat × Rat × Rat) × Rat)) => .c (.one (.dt .bool .u (decide (p = q))))) z.1 z.2⟩
theorem RT : RS.OK Tryz.prog := mkF hmix 43 Tryz.func65 rfl rfl (by decide) [(16, .c Cq), (17, .c wC)] (fun _ => rfl) (fun _ => rfl) (fun _ _ => rfl) (fun (p : List ((Rat × Rat × Rat) × Rat)) (q : List ((Rat × Rat × Rat) × Rat)) b hx hp => q9 trivial rfl) (fun (p : List ((Rat × Rat × Rat) × Rat)) (q : List ((Rat × Rat × Rat) × Rat)) hx hp => by
 have hl0 : p.length ≤ 1048576 := hx.1.1
 have hl1 : q.length ≤ 1048576 := hx.2.1
 exact ⟨.cond (.nil) (.loop [.s 5 (.nat .i64) (.n 1048576)] (fun (i : Nat) => EqI p q i) (fun (i : Nat) => p.length - i) (fun (i : Nat) => .nil)), kcast (by kernel_rfl) (And.intro (fun (h1 : p.length ≠ q.length) => (MO h1 : false = decide (p = q))) (fun (h2 : ¬ (p.length ≠ q.length)) => I (EqI.start (by omega) : EqI p q 0) (fun (i : Nat) (hb3 : HB [.s 5 (.nat .i64) (.n 1048576)] i) (hI : EqI p q i) => have hv10 := (show i ≤ 1048576 from hb3); have hIi := hI.hi; have hIl := hI.hl; And.intro (fun (h4 : i < p.length) => I (by omega : i < p.length) (I (by omega : i < q.length) (And.intro (fun (h5 : (!(decide (((p.getD i ((0, (0, 0)), 0)).1) = ((q.getD i ((0, (0, 0)), 0)).1)))) = true) => (L4 _ (QG (nd h5)) : false = decide (p = q))) (fun (h6 : ¬ ((!(decide (((p.getD i ((0, (0, 0)), 0)).1) = ((q.getD i ((0, (0, 0)), 0)).1)))) = true)) => I (by omega : i < p.length) (I (by omega : i < q.length) (And.intro (fun (h7 : (!(decide (((p.getD i ((0, (0, 0)), 0)).2) = ((q.getD i ((0, (0, 0)), 0)).2)))) = true) => (L4 _ (QH (nd h7)) : false = decide (p = q))) (fun (h8 : ¬ ((!(decide (((p.getD i ((0, (0, 0)), 0)).2) = ((q.getD i ((0, (0, 0)), 0)).2)))) = true)) => I (show (i + 1) ≤ 1048576 by omega : Bnd (.nat .i64) (.n 1048576) (i + 1)) (And.intro (hI.step _ (by omega) (Prod.ext (nd' h6) (nd' h8)) : EqI p q (i + 1)) (by omega : p.length - (i + 1) < p.length - i))))))))) (fun (h9 : ¬ (i < p.length)) => ((decide_eq_true (hI.fin (by omega))).symm : true = decide (p = q))))))⟩)
abbrev RR : Ctr Tryz.prog := FI.c RT
abbrev U8 : FI := ⟨8, [], [], fun _ => [], fun b z => .c (.one (.vl (.bool true)))⟩
theorem U9 : U8.OK Tryz.prog := mkF hmix 50 Tryz.func8 rfl rfl (by decide) [(13, .c Wa), (16, .c Cq), (17, .c wC), (25, .c Jy), (30, .c WG), (31, .c wY), (33, .c DK)] (fun _ => rfl) (fun _ => rfl) (fun _ _ => rfl) (fun  b hx hp => zO rfl) (fun  hx hp => by
 exact ⟨.cond (.cond (.cond (.cond (.cond (.nil) (.dead)) (.dead)) (.dead)) (.dead)) (.dead), kcast (by kernel_rfl) (I (by exact J4 (by decide +kernel) : Bnd tV3 (bV3 16) (0, 0, 0)) (I (by exact J4 (by decide +kernel) : Bnd tV3 (bV3 16) (((1 : Int) : Rat), ((0 : Int) : Rat), ((0 : Int) : Rat))) (I (by exact J4 (by decide +kernel) : Bnd tV3 (bV3 16) (((0 : Int) : Rat), ((1 : Int) : Rat), ((0 : Int) : Rat))) (have hE := (show (arcR (0, 0, 0) (((1 : Int) : Rat), ((0 : Int) : Rat), ((0 : Int) : Rat)) (((0 : Int) : Rat), ((1 : Int) : Rat), ((0 : Int) : Rat)) 1).2.2.2 = 0 from by decide +kernel); have hL := (show (arcR (0, 0, 0) (((1 : Int) : Rat), ((0 : Int) : Rat), ((0 : Int) : Rat)) (((0 : Int) : Rat), ((1 : Int) : Rat), ((0 : Int) : Rat)) 1).1.2.2.length = 3 from by decide +kernel); have hW := (show ((arcR (0, 0, 0) (((1 : Int) : Rat), ((0 : Int) : Rat), ((0 : Int) : Rat)) (((0 : Int) : Rat), ((1 : Int) : Rat), ((0 : Int) : Rat)) 1).1.2.2.getD 1 ((0, 0, 0), 0)).2 = ((1 : Int) : Rat) / ((2 : Int) : Rat) from by decide +kernel); have hM := (show (arcR (0, 0, 0) (((1 : Int) : Rat), ((0 : Int) : Rat), ((0 : Int) : Rat)) (((0 : Int) : Rat), ((1 : Int) : Rat), ((0 : Int) : Rat)) 1).2.1 = (((1 : Int) : Rat), ((1 : Int) : Rat), ((0 : Int) : Rat)) from by decide +kernel); have hS1 := (show cmpQ (arcR (0, 0, 0) (((1 : Int) : Rat), ((0 : Int) : Rat), ((0 : Int) : Rat)) (((0 : Int) : Rat), ((1 : Int) : Rat), ((0 : Int) : Rat)) 1).2.2.1.1 ((1 : Int) : Rat) ≤ 0 from by decide +kernel); have hS2 := (show cmpQ ((1 : Int) : Rat) (arcR (0, 0, 0) (((1 : Int) : Rat), ((0 : Int) : Rat), ((0 : Int) : Rat)) (((0 : Int) : Rat), ((1 : Int) : Rat), ((0 : Int) : Rat)) 1).2.2.1.2 ≤ 0 from by decide +kernel); And.intro (fun (h1 : (arcR (0, 0, 0) (((1 : Int) : Rat), ((0 : Int) : Rat), ((0 : Int) : Rat)) (((0 : Int) : Rat), ((1 : Int) : Rat), ((0 : Int) : Rat)) 1).2.2.2 = 0) => And.intro (fun (h2 : ((((arcR (0, 0, 0) (((1 : Int) : Rat), ((0 : Int) : Rat), ((0 : Int) : Rat)) (((0 : Int) : Rat), ((1 : Int) : Rat), ((0 : Int) : Rat)) 1).1).2).2).length = 3) => I (by omega : 1 < ((((arcR (0, 0, 0) (((1 : Int) : Rat), ((0 : Int) : Rat), ((0 : Int) : Rat)) (((0 : Int) : Rat), ((1 : Int) : Rat), ((0 : Int) : Rat)) 1).1).2).2).length) (And.intro (fun (h3 : decide (((((((arcR (0, 0, 0) (((1 : Int) : Rat), ((0 : Int) : Rat), ((0 : Int) : Rat)) (((0 : Int) : Rat), ((1 : Int) : Rat), ((0 : Int) : Rat)) 1).1).2).2).getD 1 ((0, (0, 0)), 0)).2) = (((1 : Int) : Rat) / ((2 : Int) : Rat))) = true) => And.intro (fun (h4 : decide (((arcR (0, 0, 0) (((1 : Int) : Rat), ((0 : Int) : Rat), ((0 : Int) : Rat)) (((0 : Int) : Rat), ((1 : Int) : Rat), ((0 : Int) : Rat)) 1).2.1) = (((1 : Int) : Rat), ((1 : Int) : Rat), ((0 : Int) : Rat))) = true) => And.intro (fun (h5 : cmpQ (((arcR (0, 0, 0) (((1 : Int) : Rat), ((0 : Int) : Rat), ((0 : Int) : Rat)) (((0 : Int) : Rat), ((1 : Int) : Rat), ((0 : Int) : Rat)) 1).2.2.1).1) ((1 : Int) : Rat) ≤ 0) => (hS2 : cmpQ ((1 : Int) : Rat) (((arcR (0, 0, 0) (((1 : Int) : Rat), ((0 : Int) : Rat), ((0 : Int) : Rat)) (((0 : Int) : Rat), ((1 : Int) : Rat), ((0 : Int) : Rat)) 1).2.2.1).2) ≤ 0)) (fun (h6 : ¬ (cmpQ (((arcR (0, 0, 0) (((1 : Int) : Rat), ((0 : Int) : Rat), ((0 : Int) : Rat)) (((0 : Int) : Rat), ((1 : Int) : Rat), ((0 : Int) : Rat)) 1).2.2.1).1) ((1 : Int) : Rat) ≤ 0)) => (h6 hS1 : False))) (fun (h7 : ¬ (decide (((arcR (0, 0, 0) (((1 : Int) : Rat), ((0 : Int) : Rat), ((0 : Int) : Rat)) (((0 : Int) : Rat), ((1 : Int) : Rat), ((0 : Int) : Rat)) 1).2.1) = (((1 : Int) : Rat), ((1 : Int) : Rat), ((0 : Int) : Rat))) = true)) => (h7 (decide_eq_true hM) : False))) (fun (h8 : ¬ (decide (((((((arcR (0, 0, 0) (((1 : Int) : Rat), ((0 : Int) : Rat), ((0 : Int) : Rat)) (((0 : Int) : Rat), ((1 : Int) : Rat), ((0 : Int) : Rat)) 1).1).2).2).getD 1 ((0, (0, 0)), 0)).2) = (((1 : Int) : Rat) / ((2 : Int) : Rat))) = true)) => (h8 (decide_eq_true hW) : False)))) (fun (h9 : ¬ (((((arcR (0, 0, 0) (((1 : Int) : Rat), ((0 : Int) : Rat), ((0 : Int) : Rat)) (((0 : Int) : Rat), ((1 : Int) : Rat), ((0 : Int) : Rat)) 1).1).2).2).length = 3)) => (h9 hL : False))) (fun (h10 : ¬ ((arcR (0, 0, 0) (((1 : Int) : Rat), ((0 : Int) : Rat), ((0 : Int) : Rat)) (((0 : Int) : Rat), ((1 : Int) : Rat), ((0 : Int) : Rat)) 1).2.2.2 = 0)) => (h10 hE : False))))))⟩)
abbrev U7 : Ctr Tryz.prog := FI.c U9
abbrev rgR (a b : Int) : Rat := ((a * a + b * b : Int) : Rat)
abbrev rgW (a b : Int) (n : Nat) : Rat := ((8 * (a * a + b * b) : Int) : Rat) * (((1 : Int) : Rat) / (((2 ^ n : Nat) : Int) : Rat))
def M9 (r : (Rat × Rat) × Int) (a b : Int) (n : Nat) : Prop := r.2 = 0 ∧ cmpQ r.1.1 (rgR a b) ≤ 0 ∧ cmpQ (rgR a b) r.1.2 ≤ 0 ∧ cmpQ (r.1.2 - r.1.1) (rgW a b n) ≤ 0
instance (r : (Rat × Rat) × Int) (a b : Int) (n : Nat) : Decidable (M9 r a b n) := by unfold M9; infer_instance
abbrev RU : FI := ⟨69, [.rat], [(.n 68719476736)], fun _ => [], fun b z => .c (.one (.vl (.bool true)))⟩
theorem RV : RU.OK Tryz.prog := mkF hmix 57 Tryz.func69 rfl rfl (by decide) [(78, .c BI), (121, .c RL), (122, .c OU)] (fun _ => rfl) (fun _ => rfl) (fun _ _ => rfl) (fun (x : Rat) b hx hp => zO rfl) (fun (x : Rat) hx hp => by
 exact ⟨.cond (.cond (.dead) (.cond (.cond (.dead) (.cond (.dead) ((fun (g : Nat) => .cond (.nil) (.dead)) (Nat.gcd x.num.natAbs x.den)))) ((fun (g : Nat) => .cond (.nil) (.dead)) (Nat.gcd x.num.natAbs x.den)))) (.cond (.cond (.dead) (.cond (.dead) ((fun (g : Nat) => .cond (.nil) (.dead)) (Nat.gcd x.num.natAbs x.den)))) ((fun (g : Nat) => .cond (.nil) (.dead)) (Nat.gcd x.num.natAbs x.den))), kcast (by kernel_rfl) (I (zS _ : (limbs x.num.natAbs).length = 0 ∨ (limbs x.num.natAbs).getD ((limbs x.num.natAbs).length - 1) 0 ≠ 0) (I (GE x.den : (denL x.den).length = 0 ∨ (denL x.den).getD ((denL x.den).length - 1) 0 ≠ 0) (And.intro (fun (h1 : (denL x.den).length = 1) => I (by omega : 0 < (denL x.den).length) (And.intro (fun (h2 : (denL x.den).getD 0 0 = 1) => (KK h1 h2 : False)) (fun (h3 : ¬ ((denL x.den).getD 0 0 = 1)) => And.intro (fun (h4 : (limbs x.num.natAbs).length = 0) => And.intro (fun (h5 : x.num < 0) => (DI h4 h5 : False)) (fun (h6 : ¬ (x.num < 0)) => And.intro (fun (h7 : 0 < (denL x.den).length) => (Er h4 h7 : False)) (fun (h8 : ¬ (0 < (denL x.den).length)) => (fun (g : Nat) (hg : g = Nat.gcd x.num.natAbs x.den) => have hg1 := (show g = 1 from hg.trans (BF x)); And.intro (fun (h9 : (limbs g).length = 1) => I (by omega : 0 < (limbs g).length) (((w6 hg1).2 : (limbs g).getD 0 0 = 1))) (fun (h10 : ¬ ((limbs g).length = 1)) => (h10 (w6 hg1).1 : False))) (Nat.gcd x.num.natAbs x.den) rfl))) (fun (h11 : ¬ ((limbs x.num.natAbs).length = 0)) => (fun (g : Nat) (hg : g = Nat.gcd x.num.natAbs x.den) => have hg1 := (show g = 1 from hg.trans (BF x)); And.intro (fun (h12 : (limbs g).length = 1) => I (by omega : 0 < (limbs g).length) (((w6 hg1).2 : (limbs g).getD 0 0 = 1))) (fun (h13 : ¬ ((limbs g).length = 1)) => (h13 (w6 hg1).1 : False))) (Nat.gcd x.num.natAbs x.den) rfl)))) (fun (h14 : ¬ ((denL x.den).length = 1)) => And.intro (fun (h15 : (limbs x.num.natAbs).length = 0) => And.intro (fun (h16 : x.num < 0) => (DI h15 h16 : False)) (fun (h17 : ¬ (x.num < 0)) => And.intro (fun (h18 : 0 < (denL x.den).length) => (Er h15 h18 : False)) (fun (h19 : ¬ (0 < (denL x.den).length)) => (fun (g : Nat) (hg : g = Nat.gcd x.num.natAbs x.den) => have hg1 := (show g = 1 from hg.trans (BF x)); And.intro (fun (h20 : (limbs g).length = 1) => I (by omega : 0 < (limbs g).length) (((w6 hg1).2 : (limbs g).getD 0 0 = 1))) (fun (h21 : ¬ ((limbs g).length = 1)) => (h21 (w6 hg1).1 : False))) (Nat.gcd x.num.natAbs x.den) rfl))) (fun (h22 : ¬ ((limbs x.num.natAbs).length = 0)) => (fun (g : Nat) (hg : g = Nat.gcd x.num.natAbs x.den) => have hg1 := (show g = 1 from hg.trans (BF x)); And.intro (fun (h23 : (limbs g).length = 1) => I (by omega : 0 < (limbs g).length) (((w6 hg1).2 : (limbs g).getD 0 0 = 1))) (fun (h24 : ¬ ((limbs g).length = 1)) => (h24 (w6 hg1).1 : False))) (Nat.gcd x.num.natAbs x.den) rfl)))))⟩)
abbrev Ey : Ctr Tryz.prog := FI.c RV
abbrev P3 : FI := ⟨67, [(.sl .rat)], [(.s 1048576 (.n 68719476736))], fun _ => [], fun b z => .c (.one (.vl (.bool true)))⟩
theorem P4 : P3.OK Tryz.prog := mkF hmix 16 Tryz.func67 rfl rfl (by decide) [(69, .c Ey)] (fun _ => rfl) (fun _ => rfl) (fun _ _ => rfl) (fun (l : List Rat) b hx hp => zO rfl) (fun (l : List Rat) hx hp => by
 have hl0 : l.length ≤ 1048576 := hx.1
 exact ⟨.loop [.s 3 (.nat .i64) (.n 1048576)] (fun (i : Nat) => i ≤ l.length) (fun (i : Nat) => l.length - i) (fun (i : Nat) => .nil), kcast (by kernel_rfl) (I (Nat.zero_le _ : 0 ≤ l.length) (fun (i : Nat) (hb1 : HB [.s 3 (.nat .i64) (.n 1048576)] i) (hI : i ≤ l.length) => have hv4 := (show i ≤ 1048576 from hb1); And.intro (fun (h2 : i < l.length) => I (by omega : i < l.length) (I (show (i + 1) ≤ 1048576 by omega : Bnd (.nat .i64) (.n 1048576) (i + 1)) (And.intro ((by omega) : (i + 1) ≤ l.length) (by omega : l.length - (i + 1) < l.length - i)))) (fun (h3 : ¬ (i < l.length)) => trivial)))⟩)
abbrev P2 : Ctr Tryz.prog := FI.c P4
abbrev Rt : FI := ⟨68, [(.pr .rat (.pr .rat .rat))], [(.p (.n 68719476736) (.p (.n 68719476736) (.n 68719476736)))], fun _ => [], fun b z => .c (.one (.vl (.bool true)))⟩
theorem Ru : Rt.OK Tryz.prog := mkF hmix 16 Tryz.func68 rfl rfl (by decide) [(69, .c Ey)] (fun _ => rfl) (fun _ => rfl) (fun _ _ => rfl) (fun (p : Rat × Rat × Rat) b hx hp => zO rfl) (fun (p : Rat × Rat × Rat) hx hp => by
 exact ⟨.nil, kcast (by kernel_rfl) (trivial)⟩)
abbrev Rs : Ctr Tryz.prog := FI.c Ru
abbrev Qa : FI := ⟨71, [(.sl .rat), (.int .i64)], [(.s 1048576 (.n 68719476736)), (.n 1099511627776)], fun _ => [], fun b z => (fun (k : List Rat) (d : Int) => .c (.one (.dt (.int .i64) (.n ((b0 b).len + (b1 b).nb + 1)) ((k.length : Int) - d - 1)))) z.1 z.2⟩
theorem Qb : Qa.OK Tryz.prog := mkF hmix 10 Tryz.func71 rfl rfl (by decide) [] (fun _ => rfl) (fun _ => rfl) (fun _ _ => rfl) (fun (k : List Rat) (d : Int) b hx hp => q9 (show Int.natAbs ((k.length : Int) - d - 1) ≤ (b0 b).len + (b1 b).nb + 1 from by have h1 := (Bnds.h2 hx).1.slm.1; have h2 := (Bnds.h2 hx).2.int; omega) rfl) (fun (k : List Rat) (d : Int) hx hp => by
 have hl0 : k.length ≤ 1048576 := hx.1.1
 have hx1 : Int.natAbs d ≤ 1099511627776 := hx.2
 exact ⟨.nil, kcast (by kernel_rfl) ((by omega : (((k.length : Nat) : Int) - d) - 1 = ((k.length : Nat) : Int) - d - 1))⟩)
abbrev Ii : Ctr Tryz.prog := FI.c Qb
abbrev Xf : FI := ⟨123, [(.sl .rat)], [(.s 1048576 (.n 68719476736))], fun _ => [], fun b z => (fun (k : List Rat) => .c (.one (.dt (.sl .rat) (.s ((b0 b).len) (.n ((b0 b).mx))) (dst k)))) z⟩
theorem Xg : Xf.OK Tryz.prog := mkF hmix 34 Tryz.func123 rfl rfl (by decide) [(17, .c wC)] (fun _ => rfl) (fun _ => rfl) (fun _ _ => rfl) (fun (k : List Rat) b hx hp => q9 (Sd (Bnds.h1 hx)) rfl) (fun (k : List Rat) hx hp => by
 have hl0 : k.length ≤ 1048576 := hx.1
 exact ⟨.loop [.s 4 (.nat .i64) (.n 1048576), .g 3 90003 .rat (.n 68719476736) 1048576] (fun ((i, out) : Nat × List Rat) => out = dstN k i ∧ i ≤ k.length) (fun ((i, out) : Nat × List Rat) => k.length - i) (fun ((i, out) : Nat × List Rat) => .cond (.cond (.h 6 5 (.mk (.im .rat (.n 68719476736))) (.nil)) (.h 5 9 (.i .sub) (.cond (.h 6 5 (.mk (.im .rat (.n 68719476736))) (.nil)) (.nil)))) (.pre 999999 (.frz 90003 true [2]) (.nil))), kcast (by kernel_rfl) (I (rfl : 0 = ([] : List Rat).length) (I (⟨rfl, Nat.zero_le _⟩ : ([] : List Rat) = dstN k 0 ∧ 0 ≤ k.length) (fun (i : Nat) (out : List Rat) (hb1 : HB [.s 4 (.nat .i64) (.n 1048576), .g 3 90003 .rat (.n 68719476736) 1048576] (i, out)) (hI : out = dstN k i ∧ i ≤ k.length) => have hv8 := (show i ≤ 1048576 from hb1.1); have hv9 := (show out.length ≤ 1048576 from hb1.2.1); have hIo := hI.1; have hIi := hI.2; have hIl := (show out.length ≤ i from hI.1 ▸ wq k i); And.intro (fun (h2 : i < k.length) => And.intro (fun (h3 : i = 0) => I (by omega : i < k.length) (I (by omega : out.length = out.length) (I (show (i + 1) ≤ 1048576 by omega : Bnd (.nat .i64) (.n 1048576) (i + 1)) (I (by (try simp only [List.length_append, List.length_cons, List.length_nil]) <;> omega : out.length + [k.getD i 0].length = (out ++ [k.getD i 0]).length) (I (by (try simp only [List.length_append, List.length_cons, List.length_nil]) <;> omega : out.length + [k.getD i 0].length ≤ 1048576) (And.intro (⟨by rw [hIo]; exact K0 (.inl h3), by omega⟩ : (out ++ [k.getD i 0]) = dstN k (i + 1) ∧ (i + 1) ≤ k.length) (by omega : k.length - (i + 1) < k.length - i))))))) (fun (h4 : ¬ (i = 0)) => I (by omega : i < k.length) (I (by omega : 1 ≤ i) (I (by omega : i - 1 < k.length) (And.intro (fun (h5 : (!(decide ((k.getD i 0) = (k.getD (i - 1) 0)))) = true) => I (by omega : i < k.length) (I (by omega : out.length = out.length) (I (show (i + 1) ≤ 1048576 by omega : Bnd (.nat .i64) (.n 1048576) (i + 1)) (I (by (try simp only [List.length_append, List.length_cons, List.length_nil]) <;> omega : out.length + [k.getD i 0].length = (out ++ [k.getD i 0]).length) (I (by (try simp only [List.length_append, List.length_cons, List.length_nil]) <;> omega : out.length + [k.getD i 0].length ≤ 1048576) (And.intro (⟨by rw [hIo]; exact K0 (.inr (nd h5)), by omega⟩ : (out ++ [k.getD i 0]) = dstN k (i + 1) ∧ (i + 1) ≤ k.length) (by omega : k.length - (i + 1) < k.length - i))))))) (fun (h6 : ¬ ((!(decide ((k.getD i 0) = (k.getD (i - 1) 0)))) = true)) => I (show (i + 1) ≤ 1048576 by omega : Bnd (.nat .i64) (.n 1048576) (i + 1)) (I (by omega : out.length = out.length) (And.intro (⟨by rw [hIo]; exact WO h4 (nd' h6), by omega⟩ : out = dstN k (i + 1) ∧ (i + 1) ≤ k.length) (by omega : k.length - (i + 1) < k.length - i))))))))) (fun (h7 : ¬ (i < k.length)) => I (by omega : out.length = out.length) ((hIo.trans (by rw [show i = k.length by omega]) : out = dst k))))))⟩)
abbrev Xe : Ctr Tryz.prog := FI.c Xg
abbrev Qf : FI := ⟨124, [(.sl .rat), .rat], [(.s 1048576 (.n 68719476736)), (.n 68719476736)], fun _ => [], fun b z => (fun (k : List Rat) (t : Rat) => .c (.one (.dt (.nat .i64) (.n (b0 b).len) (qu k t k.length)))) z.1 z.2⟩
theorem Qg : Qf.OK Tryz.prog := mkF hmix 22 Tryz.func124 rfl rfl (by decide) [(17, .c wC)] (fun _ => rfl) (fun _ => rfl) (fun _ _ => rfl) (fun (k : List Rat) (t : Rat) b hx hp => q9 (show qu k t k.length ≤ (b0 b).len from Nat.le_trans (w4 k t _) (Bnds.h2 hx).1.slm.1) rfl) (fun (k : List Rat) (t : Rat) hx hp => by
 have hl0 : k.length ≤ 1048576 := hx.1.1
 exact ⟨.loop [.s 6 (.nat .i64) (.n 1048576), .s 5 (.nat .i64) (.n 1048576)] (fun ((i, m) : Nat × Nat) => m = qu k t i ∧ i ≤ k.length) (fun ((i, m) : Nat × Nat) => k.length - i) (fun ((i, m) : Nat × Nat) => .nil), kcast (by kernel_rfl) (I (⟨rfl, Nat.zero_le _⟩ : 0 = qu k t 0 ∧ 0 ≤ k.length) (fun (i : Nat) (m : Nat) (hb1 : HB [.s 6 (.nat .i64) (.n 1048576), .s 5 (.nat .i64) (.n 1048576)] (i, m)) (hI : m = qu k t i ∧ i ≤ k.length) => have hv6 := (show i ≤ 1048576 from hb1.1); have hv7 := (show m ≤ 1048576 from hb1.2); have hIi := hI.2; have hIl := (show m ≤ i from hI.1 ▸ w4 k t i); And.intro (fun (h2 : i < k.length) => I (by omega : i < k.length) (And.intro (fun (h3 : decide ((k.getD i 0) = t) = true) => I (show (i + 1) ≤ 1048576 by omega : Bnd (.nat .i64) (.n 1048576) (i + 1)) (I (show (m + 1) ≤ 1048576 by omega : Bnd (.nat .i64) (.n 1048576) (m + 1)) (And.intro (⟨by rw [qu, if_pos (yd h3), hI.1], by omega⟩ : (m + 1) = qu k t (i + 1) ∧ (i + 1) ≤ k.length) (by omega : k.length - (i + 1) < k.length - i)))) (fun (h4 : ¬ (decide ((k.getD i 0) = t) = true)) => I (show (i + 1) ≤ 1048576 by omega : Bnd (.nat .i64) (.n 1048576) (i + 1)) (And.intro (⟨by rw [qu, if_neg (yd' h4), hI.1], by omega⟩ : m = qu k t (i + 1) ∧ (i + 1) ≤ k.length) (by omega : k.length - (i + 1) < k.length - i))))) (fun (h5 : ¬ (i < k.length)) => (by rw [hI.1, show i = k.length by omega] : m = qu k t k.length))))⟩)
abbrev Qe : Ctr Tryz.prog := FI.c Qg
abbrev Q7 : FI := ⟨70, [(.sl .rat), (.int .i64)], [(.s 1048576 (.n 68719476736)), (.n 1099511627776)], fun _ => [], fun b z => (fun (k : List Rat) (d : Int) => .c (.one (.dt (.int .i64) (.n 5) (chkK k d)))) z.1 z.2⟩
theorem Q8 : Q7.OK Tryz.prog := mkF hmix 96 Tryz.func70 rfl rfl (by decide) [(25, .c Jy), (71, .c Ii), (123, .c Xe), (124, .c Qe)] (fun _ => rfl) (fun _ => rfl) (fun _ _ => rfl) (fun (k : List Rat) (d : Int) b hx hp => q9 (HO k d) rfl) (fun (k : List Rat) (d : Int) hx hp => by
 have hl0 : k.length ≤ 1048576 := hx.1.1
 have hx1 : Int.natAbs d ≤ 1099511627776 := hx.2
 exact ⟨.cond (.nil) (.cond (.nil) (.cond (.nil) (.cond (.nil) (.loop [.s 5 (.nat .i64) (.n 1048576)] (fun (i : Nat) => srtN k i = true ∧ 1 ≤ i ∧ i ≤ k.length) (fun (i : Nat) => k.length - i) (fun (i : Nat) => .cond (.h 10 6 (.i .sub) (.nil)) (.loop [.s 7 (.nat .i64) (.n 1048576)] (fun (i2 : Nat) => okN k d i2 = true ∧ i2 ≤ (dst k).length) (fun (i2 : Nat) => (dst k).length - i2) (fun (i2 : Nat) => .cond (.cond (.cond (.nil) (.cond (.nil) (.cond (.h 17 28 (.i .sub) (.nil)) (.nil)))) (.h 17 6 (.i .sub) (.cond (.cond (.nil) (.cond (.nil) (.cond (.h 17 28 (.i .sub) (.nil)) (.nil)))) (.cond (.nil) (.cond (.h 17 28 (.i .sub) (.nil)) (.nil)))))) (.nil)))))))), kcast (by kernel_rfl) (And.intro (fun (h1 : d < 1) => (Hg (by omega) : 1 = chkK k d)) (fun (h2 : ¬ (d < 1)) => And.intro (fun (h3 : 6 < d) => (Hg (by omega) : 1 = chkK k d)) (fun (h4 : ¬ (6 < d)) => And.intro (fun (h5 : ((k.length : Nat) : Int) < (2 * d) + 2) => (S6 (by omega) h5 : 5 = chkK k d)) (fun (h6 : ¬ (((k.length : Nat) : Int) < (2 * d) + 2)) => And.intro (fun (h7 : 40 < ((k.length : Nat) : Int) - d - 1) => (S7 (by omega) (by omega) (by omega) : 2 = chkK k d)) (fun (h8 : ¬ (40 < ((k.length : Nat) : Int) - d - 1)) => I (⟨rfl, Nat.le_refl 1, by omega⟩ : srtN k 1 = true ∧ 1 ≤ 1 ∧ 1 ≤ k.length) (fun (i : Nat) (hb9 : HB [.s 5 (.nat .i64) (.n 1048576)] i) (hI : srtN k i = true ∧ 1 ≤ i ∧ i ≤ k.length) => have hv52 := (show i ≤ 1048576 from hb9); have hI1 := hI.2.1; have hI2 := hI.2.2; And.intro (fun (h10 : i < k.length) => I (by omega : i < k.length) (I (by omega : 1 ≤ i) (I (by omega : i - 1 < k.length) (And.intro (fun (h11 : cmpQ (k.getD i 0) (k.getD (i - 1) 0) < 0) => (S8 (by omega) (by omega) (by omega) (KD hI1 h11 (by omega)) : 5 = chkK k d)) (fun (h12 : ¬ (cmpQ (k.getD i 0) (k.getD (i - 1) 0) < 0)) => I (show (i + 1) ≤ 1048576 by omega : Bnd (.nat .i64) (.n 1048576) (i + 1)) (And.intro (⟨Rc hI.1 h12, by omega, by omega⟩ : srtN k (i + 1) = true ∧ 1 ≤ (i + 1) ∧ (i + 1) ≤ k.length) (by omega : k.length - (i + 1) < k.length - i))))))) (fun (h13 : ¬ (i < k.length)) => I (⟨rfl, Nat.zero_le _⟩ : okN k d 0 = true ∧ 0 ≤ (dst k).length) (fun (i2 : Nat) (hb14 : HB [.s 7 (.nat .i64) (.n 1048576)] i2) (hJ : okN k d i2 = true ∧ i2 ≤ (dst k).length) => have hv51 := (show i2 ≤ 1048576 from hb14); have hJ1 := hJ.2; have hdl := (show (dst k).length ≤ k.length from wq k k.length); And.intro (fun (h15 : i2 < (dst k).length) => I (by omega : i2 < (dst k).length) (And.intro (fun (h16 : i2 = 0) => And.intro (fun (h17 : ((qu k ((dst k).getD i2 0) k.length : Nat) : Int) ≠ d + 1) => (zz (by omega) (by omega) (by omega) (by rw [show k.length = i by omega]; exact hI.1) (z0 (i := i2) (by unfold badM; omega) (by omega)) : 5 = chkK k d)) (fun (h18 : ¬ (((qu k ((dst k).getD i2 0) k.length : Nat) : Int) ≠ d + 1)) => And.intro (fun (h19 : d + 1 < ((qu k ((dst k).getD i2 0) k.length : Nat) : Int)) => (zz (by omega) (by omega) (by omega) (by rw [show k.length = i by omega]; exact hI.1) (z0 (i := i2) (by unfold badM; omega) (by omega)) : 5 = chkK k d)) (fun (h20 : ¬ (d + 1 < ((qu k ((dst k).getD i2 0) k.length : Nat) : Int))) => And.intro (fun (h21 : 0 < i2) => I (by omega : 1 ≤ (dst k).length) (And.intro (fun (h22 : i2 < ((dst k).length) - 1) => And.intro (fun (h23 : d < ((qu k ((dst k).getD i2 0) k.length : Nat) : Int)) => (zz (by omega) (by omega) (by omega) (by rw [show k.length = i by omega]; exact hI.1) (z0 (i := i2) (by unfold badM; omega) (by omega)) : 5 = chkK k d)) (fun (h24 : ¬ (d < ((qu k ((dst k).getD i2 0) k.length : Nat) : Int))) => I (show (i2 + 1) ≤ 1048576 by omega : Bnd (.nat .i64) (.n 1048576) (i2 + 1)) (And.intro (⟨jR hJ.1 (by unfold badM; omega), by omega⟩ : okN k d (i2 + 1) = true ∧ (i2 + 1) ≤ (dst k).length) (by omega : (dst k).length - (i2 + 1) < (dst k).length - i2)))) (fun (h25 : ¬ (i2 < ((dst k).length) - 1)) => I (show (i2 + 1) ≤ 1048576 by omega : Bnd (.nat .i64) (.n 1048576) (i2 + 1)) (And.intro (⟨jR hJ.1 (by unfold badM; omega), by omega⟩ : okN k d (i2 + 1) = true ∧ (i2 + 1) ≤ (dst k).length) (by omega : (dst k).length - (i2 + 1) < (dst k).length - i2))))) (fun (h26 : ¬ (0 < i2)) => I (show (i2 + 1) ≤ 1048576 by omega : Bnd (.nat .i64) (.n 1048576) (i2 + 1)) (And.intro (⟨jR hJ.1 (by unfold badM; omega), by omega⟩ : okN k d (i2 + 1) = true ∧ (i2 + 1) ≤ (dst k).length) (by omega : (dst k).length - (i2 + 1) < (dst k).length - i2)))))) (fun (h27 : ¬ (i2 = 0)) => I (by omega : 1 ≤ (dst k).length) (And.intro (fun (h28 : i2 = ((dst k).length) - 1) => And.intro (fun (h29 : ((qu k ((dst k).getD i2 0) k.length : Nat) : Int) ≠ d + 1) => (zz (by omega) (by omega) (by omega) (by rw [show k.length = i by omega]; exact hI.1) (z0 (i := i2) (by unfold badM; omega) (by omega)) : 5 = chkK k d)) (fun (h30 : ¬ (((qu k ((dst k).getD i2 0) k.length : Nat) : Int) ≠ d + 1)) => And.intro (fun (h31 : d + 1 < ((qu k ((dst k).getD i2 0) k.length : Nat) : Int)) => (zz (by omega) (by omega) (by omega) (by rw [show k.length = i by omega]; exact hI.1) (z0 (i := i2) (by unfold badM; omega) (by omega)) : 5 = chkK k d)) (fun (h32 : ¬ (d + 1 < ((qu k ((dst k).getD i2 0) k.length : Nat) : Int))) => And.intro (fun (h33 : 0 < i2) => I (by omega : 1 ≤ (dst k).length) (And.intro (fun (h34 : i2 < ((dst k).length) - 1) => And.intro (fun (h35 : d < ((qu k ((dst k).getD i2 0) k.length : Nat) : Int)) => (zz (by omega) (by omega) (by omega) (by rw [show k.length = i by omega]; exact hI.1) (z0 (i := i2) (by unfold badM; omega) (by omega)) : 5 = chkK k d)) (fun (h36 : ¬ (d < ((qu k ((dst k).getD i2 0) k.length : Nat) : Int))) => I (show (i2 + 1) ≤ 1048576 by omega : Bnd (.nat .i64) (.n 1048576) (i2 + 1)) (And.intro (⟨jR hJ.1 (by unfold badM; omega), by omega⟩ : okN k d (i2 + 1) = true ∧ (i2 + 1) ≤ (dst k).length) (by omega : (dst k).length - (i2 + 1) < (dst k).length - i2)))) (fun (h37 : ¬ (i2 < ((dst k).length) - 1)) => I (show (i2 + 1) ≤ 1048576 by omega : Bnd (.nat .i64) (.n 1048576) (i2 + 1)) (And.intro (⟨jR hJ.1 (by unfold badM; omega), by omega⟩ : okN k d (i2 + 1) = true ∧ (i2 + 1) ≤ (dst k).length) (by omega : (dst k).length - (i2 + 1) < (dst k).length - i2))))) (fun (h38 : ¬ (0 < i2)) => I (show (i2 + 1) ≤ 1048576 by omega : Bnd (.nat .i64) (.n 1048576) (i2 + 1)) (And.intro (⟨jR hJ.1 (by unfold badM; omega), by omega⟩ : okN k d (i2 + 1) = true ∧ (i2 + 1) ≤ (dst k).length) (by omega : (dst k).length - (i2 + 1) < (dst k).length - i2)))))) (fun (h39 : ¬ (i2 = ((dst k).length) - 1)) => And.intro (fun (h40 : d + 1 < ((qu k ((dst k).getD i2 0) k.length : Nat) : Int)) => (zz (by omega) (by omega) (by omega) (by rw [show k.length = i by omega]; exact hI.1) (z0 (i := i2) (by unfold badM; omega) (by omega)) : 5 = chkK k d)) (fun (h41 : ¬ (d + 1 < ((qu k ((dst k).getD i2 0) k.length : Nat) : Int))) => And.intro (fun (h42 : 0 < i2) => I (by omega : 1 ≤ (dst k).length) (And.intro (fun (h43 : i2 < ((dst k).length) - 1) => And.intro (fun (h44 : d < ((qu k ((dst k).getD i2 0) k.length : Nat) : Int)) => (zz (by omega) (by omega) (by omega) (by rw [show k.length = i by omega]; exact hI.1) (z0 (i := i2) (by unfold badM; omega) (by omega)) : 5 = chkK k d)) (fun (h45 : ¬ (d < ((qu k ((dst k).getD i2 0) k.length : Nat) : Int))) => I (show (i2 + 1) ≤ 1048576 by omega : Bnd (.nat .i64) (.n 1048576) (i2 + 1)) (And.intro (⟨jR hJ.1 (by unfold badM; omega), by omega⟩ : okN k d (i2 + 1) = true ∧ (i2 + 1) ≤ (dst k).length) (by omega : (dst k).length - (i2 + 1) < (dst k).length - i2)))) (fun (h46 : ¬ (i2 < ((dst k).length) - 1)) => I (show (i2 + 1) ≤ 1048576 by omega : Bnd (.nat .i64) (.n 1048576) (i2 + 1)) (And.intro (⟨jR hJ.1 (by unfold badM; omega), by omega⟩ : okN k d (i2 + 1) = true ∧ (i2 + 1) ≤ (dst k).length) (by omega : (dst k).length - (i2 + 1) < (dst k).length - i2))))) (fun (h47 : ¬ (0 < i2)) => I (show (i2 + 1) ≤ 1048576 by omega : Bnd (.nat .i64) (.n 1048576) (i2 + 1)) (And.intro (⟨jR hJ.1 (by unfold badM; omega), by omega⟩ : okN k d (i2 + 1) = true ∧ (i2 + 1) ≤ (dst k).length) (by omega : (dst k).length - (i2 + 1) < (dst k).length - i2))))))))) (fun (h48 : ¬ (i2 < (dst k).length)) => And.intro (fun (h49 : (dst k).length < 2) => (S9 (by omega) (by omega) (by omega) (by rw [show k.length = i by omega]; exact hI.1) (by rw [show (dst k).length = i2 by omega]; exact hJ.1) (by omega) : 5 = chkK k d)) (fun (h50 : ¬ ((dst k).length < 2)) => (Sa (by omega) (by omega) (by omega) (by rw [show k.length = i by omega]; exact hI.1) (by rw [show (dst k).length = i2 by omega]; exact hJ.1) (by omega) : 0 = chkK k d)))))))))))⟩)
abbrev Q6 : Ctr Tryz.prog := FI.c Q8
abbrev VR : FI := ⟨125, [.rat], [(.n 68719476736)], fun _ => [], fun b z => (fun (x : Rat) => .c (.one (.dt (.int .i64) (.n (2 * (b0 b).nb + 1)) ((j5 x : Nat) : Int)))) z⟩
theorem VS : VR.OK Tryz.prog := mkF hmix 10 Tryz.func125 rfl rfl (by decide) [(78, .c BI), (175, .c KP)] (fun _ => rfl) (fun _ => rfl) (fun _ _ => rfl) (fun (x : Rat) b hx hp => q9 (show Int.natAbs ((j5 x : Nat) : Int) ≤ 2 * (b0 b).nb + 1 from by have := DZ (vi (Bnds.h1 hx) (Nat.le_refl _)); omega) rfl) (fun (x : Rat) hx hp => by
 exact ⟨.nil, kcast (by kernel_rfl) ((by unfold j5; omega : max ((bl x.num.natAbs : Nat) : Int) ((bl x.den : Nat) : Int) = ((j5 x : Nat) : Int)))⟩)
abbrev VQ : Ctr Tryz.prog := FI.c VS
abbrev Qc : FI := ⟨72, [(.sl .rat)], [(.s 1048576 (.n 2047))], fun _ => [], fun b z => .c (.one (.vl (.bool true)))⟩
theorem Qd : Qc.OK Tryz.prog := mkF hmix 16 Tryz.func72 rfl rfl (by decide) [(125, .c VQ)] (fun _ => rfl) (fun _ => rfl) (fun _ _ => rfl) (fun (l : List Rat) b hx hp => zO rfl) (fun (l : List Rat) hx hp => by
 have hl0 : l.length ≤ 1048576 := hx.1
 have he0 : ∀ u ∈ l, Bnd .rat (.n 2047) u := hx.2
 exact ⟨.loop [.s 3 (.nat .i64) (.n 1048576)] (fun (i : Nat) => i ≤ l.length) (fun (i : Nat) => l.length - i) (fun (i : Nat) => .cond (.cond (.dead) (.nil)) (.nil)), kcast (by kernel_rfl) (I (Nat.zero_le _ : 0 ≤ l.length) (fun (i : Nat) (hb1 : HB [.s 3 (.nat .i64) (.n 1048576)] i) (hI : i ≤ l.length) => have hv6 := (show i ≤ 1048576 from hb1); And.intro (fun (h2 : i < l.length) => I (by omega : i < l.length) (And.intro (fun (h3 : 2048 < ((j5 (l.getD i 0) : Nat) : Int)) => (absurd h3 (by have := DZ (v8 he0 i); omega) : False)) (fun (h4 : ¬ (2048 < ((j5 (l.getD i 0) : Nat) : Int))) => I (show (i + 1) ≤ 1048576 by omega : Bnd (.nat .i64) (.n 1048576) (i + 1)) (And.intro ((by omega) : (i + 1) ≤ l.length) (by omega : l.length - (i + 1) < l.length - i))))) (fun (h5 : ¬ (i < l.length)) => trivial)))⟩)
abbrev Ij : Ctr Tryz.prog := FI.c Qd
abbrev Nr : FI := ⟨73, [(.sl (.pr (.pr .rat (.pr .rat .rat)) .rat))], [(.s 1048576 (.p (.p (.n 2047) (.p (.n 2047) (.n 2047))) (.n 2047)))], fun _ => [], fun b z => .c (.one (.vl (.bool true)))⟩
theorem Ns : Nr.OK Tryz.prog := mkF hmix 36 Tryz.func73 rfl rfl (by decide) [(72, .c Ij)] (fun _ => rfl) (fun _ => rfl) (fun _ _ => rfl) (fun (l : List ((Rat × Rat × Rat) × Rat)) b hx hp => zO rfl) (fun (l : List ((Rat × Rat × Rat) × Rat)) hx hp => by
 have hl0 : l.length ≤ 1048576 := hx.1
 exact ⟨.loop [.s 3 (.nat .i64) (.n 1048576)] (fun (i : Nat) => i ≤ l.length) (fun (i : Nat) => l.length - i) (fun (i : Nat) => .cond (.h 4 23 (.mk (.im .rat (.n 2047))) (.nil)) (.nil)), kcast (by kernel_rfl) (I (Nat.zero_le _ : 0 ≤ l.length) (fun (i : Nat) (hb1 : HB [.s 3 (.nat .i64) (.n 1048576)] i) (hI : i ≤ l.length) => have hv4 := (show i ≤ 1048576 from hb1); And.intro (fun (h2 : i < l.length) => I (by omega : i < l.length) (I (by omega : i < l.length) (I (by omega : i < l.length) (I (by omega : i < l.length) (I (show (i + 1) ≤ 1048576 by omega : Bnd (.nat .i64) (.n 1048576) (i + 1)) (And.intro ((by omega) : (i + 1) ≤ l.length) (by omega : l.length - (i + 1) < l.length - i))))))) (fun (h3 : ¬ (i < l.length)) => trivial)))⟩)
abbrev Nq : Ctr Tryz.prog := FI.c Ns
abbrev Pm : FI := ⟨19, [(.pr (.int .i64) (.pr (.sl .rat) (.sl (.pr (.pr .rat (.pr .rat .rat)) .rat))))], [(.p (.n 1048576) (.p (.s 1048576 (.n 2047)) (.s 1048576 (.p (.p (.n 2047) (.p (.n 2047) (.n 2047))) (.n 2047)))))], fun _ => [], fun b z => (fun (c : Int × List Rat × List ((Rat × Rat × Rat) × Rat)) => .c (.one (.dt (.int .i64) (.n 8) (chkC c)))) z⟩
theorem Pn : Pm.OK Tryz.prog := mkF hmix 77 Tryz.func19 rfl rfl (by decide) [(29, .c KR), (67, .c P2), (68, .c Rs), (69, .c Ey), (70, .c Q6), (71, .c Ii), (72, .c Ij), (73, .c Nq)] (fun _ => rfl) (fun _ => rfl) (fun _ _ => rfl) (fun (c : Int × List Rat × List ((Rat × Rat × Rat) × Rat)) b hx hp => q9 (HN c) rfl) (fun (c : Int × List Rat × List ((Rat × Rat × Rat) × Rat)) hx hp => by
 have hpl : c.2.2.length ≤ 1048576 := hx.2.2.1
 exact ⟨.loop [.s 3 (.nat .i64) (.n 1048576)] (fun (i : Nat) => i ≤ c.2.2.length) (fun (i : Nat) => c.2.2.length - i) (fun (i : Nat) => .cond (.nil) (.cond (.nil) (.cond (.nil) (.loop [.s 5 (.nat .i64) (.n 1048576)] (fun (j : Nat) => wgtN c.2.2 j = true ∧ j ≤ c.2.2.length) (fun (j : Nat) => c.2.2.length - j) (fun (j : Nat) => .nil))))), kcast (by kernel_rfl) (I (Nat.zero_le _ : 0 ≤ c.2.2.length) (fun (i : Nat) (hb1 : HB [.s 3 (.nat .i64) (.n 1048576)] i) (hI : i ≤ c.2.2.length) => have hv14 := (show i ≤ 1048576 from hb1); And.intro (fun (h2 : i < c.2.2.length) => I (by omega : i < c.2.2.length) (I (by omega : i < c.2.2.length) (I (show (i + 1) ≤ 1048576 by omega : Bnd (.nat .i64) (.n 1048576) (i + 1)) (And.intro ((by omega) : (i + 1) ≤ c.2.2.length) (by omega : c.2.2.length - (i + 1) < c.2.2.length - i))))) (fun (h3 : ¬ (i < c.2.2.length)) => And.intro (fun (h4 : chkK c.2.1 c.1 ≠ 0) => (S2 h4 : chkK c.2.1 c.1 = chkC c)) (fun (h5 : ¬ (chkK c.2.1 c.1 ≠ 0)) => And.intro (fun (h6 : ((c.2.2.length : Nat) : Int) ≠ ((c.2.1.length : Nat) : Int) - c.1 - 1) => (S3 h5 h6 : 1 = chkC c)) (fun (h7 : ¬ (((c.2.2.length : Nat) : Int) ≠ ((c.2.1.length : Nat) : Int) - c.1 - 1)) => I (⟨rfl, Nat.zero_le _⟩ : wgtN c.2.2 0 = true ∧ 0 ≤ c.2.2.length) (fun (j : Nat) (hb8 : HB [.s 5 (.nat .i64) (.n 1048576)] j) (hJ : wgtN c.2.2 j = true ∧ j ≤ c.2.2.length) => have hv13 := (show j ≤ 1048576 from hb8); have hJ1 := hJ.2; And.intro (fun (h9 : j < c.2.2.length) => I (by omega : j < c.2.2.length) (And.intro (fun (h10 : sgnQ ((c.2.2.getD j ((0, (0, 0)), 0)).2) ≤ 0) => (S4 h5 h7 (KN h10 (by omega)) : 6 = chkC c)) (fun (h11 : ¬ (sgnQ ((c.2.2.getD j ((0, (0, 0)), 0)).2) ≤ 0)) => I (show (j + 1) ≤ 1048576 by omega : Bnd (.nat .i64) (.n 1048576) (j + 1)) (And.intro (⟨RB hJ.1 h11, by omega⟩ : wgtN c.2.2 (j + 1) = true ∧ (j + 1) ≤ c.2.2.length) (by omega : c.2.2.length - (j + 1) < c.2.2.length - j))))) (fun (h12 : ¬ (j < c.2.2.length)) => (S5 h5 h7 (by rw [show c.2.2.length = j by omega]; exact hJ.1) : 0 = chkC c))))))))⟩)
abbrev Pl : Ctr Tryz.prog := FI.c Pn
abbrev TO : FI := ⟨74, [(.sl .rat), (.int .i64), .rat], [(.s 1048576 (.n 68719476736)), (.n 1099511627776), (.n 68719476736)], fun z => (fun (k : List Rat) (d : Int) (t : Rat) => [0 ≤ d, d.toNat + 2 ≤ k.length]) z.1 z.2.1 z.2.2, fun b z => (fun (k : List Rat) (d : Int) (t : Rat) => .tup [.one (.dt (.nat .i64) (.n (b0 b).len) (ivI k d t)), .one (.dt (.int .i64) (.n 7) (ivE k t))]) z.1 z.2.1 z.2.2⟩
theorem TP : TO.OK Tryz.prog := mkF hmix 46 Tryz.func74 rfl rfl (by decide) [(25, .c Jy)] (fun _ => rfl) (fun _ => rfl) (fun _ _ => rfl) (fun (k : List Rat) (d : Int) (t : Rat) b hx hp => qd (q9 (show ivI k d t ≤ (b0 b).len from Nat.le_trans (N5 k d t) (Bnds.h3 hx).1.slm.1) rfl) (qd (q9 (Dr k t) rfl) qR)) (fun (k : List Rat) (d : Int) (t : Rat) hx hp => by
 have hl0 : k.length ≤ 1048576 := hx.1.1
 have hx1 : Int.natAbs d ≤ 1099511627776 := hx.2.1
 have hp0 : 0 ≤ d := hp _ (List.mem_cons_self)
 have hp1 : d.toNat + 2 ≤ k.length := hp _ (List.mem_cons_of_mem _ (List.mem_cons_self))
 exact ⟨.h 1 2 (.i .sub) (.cond (.nil) (.cond (.nil) (.h 4 3 (.i (.n (k.length - 2 - d.toNat) 1048576)) (.loop [.s 9 (.nat .i64) (.n 1048576)] (fun (z : Nat) => IvZ k d t z) (fun (z : Nat) => z) (fun (z : Nat) => .cond (.cond (.h 6 1 (.i .sub) (.nil)) (.nil)) (.nil)))))), kcast (by kernel_rfl) (I (by omega : 1 ≤ k.length) (I (by omega : 0 < k.length) (And.intro (fun (h1 : cmpQ t (k.getD 0 0) < 0) => And.intro ((if_pos (.inl h1)).symm : 0 = ivI k d t) ((if_pos (.inl h1)).symm : 7 = ivE k t)) (fun (h2 : ¬ (cmpQ t (k.getD 0 0) < 0)) => I (by omega : k.length - 1 < k.length) (And.intro (fun (h3 : 0 < cmpQ t (k.getD (k.length - 1) 0)) => And.intro ((if_pos (.inr h3)).symm : 0 = ivI k d t) ((if_pos (.inr h3)).symm : 7 = ivE k t)) (fun (h4 : ¬ (0 < cmpQ t (k.getD (k.length - 1) 0))) => I (vn (by omega) (by omega) : qo .sub .i64 (((k.length - 1 : Nat) : Int) - d) 1 ((k.length - 2 - d.toNat : Nat) : Int)) (I (by omega : k.length - 2 - d.toNat ≤ 1048576) (I (IvZ.start k d t : IvZ k d t (k.length - 2 - d.toNat)) (fun (z : Nat) (hb5 : HB [.s 9 (.nat .i64) (.n 1048576)] z) (hI : IvZ k d t z) => have hv10 := (show z ≤ 1048576 from hb5); have hIi := hI.hi; And.intro (fun (h6 : 0 < z) => I (by omega : z < k.length) (And.intro (fun (h7 : cmpQ t (k.getD z 0) < 0) => I (by omega : 1 ≤ z) (And.intro (hI.step h6 h7 : IvZ k d t (z - 1)) (by omega : (z - 1) < z))) (fun (h8 : ¬ (cmpQ t (k.getD z 0) < 0)) => And.intro (hI.fin (not_or.2 ⟨h2, h4⟩) (fun _ => h8) : z = ivI k d t) ((if_neg (not_or.2 ⟨h2, h4⟩)).symm : 0 = ivE k t)))) (fun (h9 : ¬ (0 < z)) => And.intro (hI.fin (not_or.2 ⟨h2, h4⟩) (fun e => absurd e h9) : z = ivI k d t) ((if_neg (not_or.2 ⟨h2, h4⟩)).symm : 0 = ivE k t)))))))))))⟩)
abbrev G2 : Ctr Tryz.prog := FI.c TP
abbrev TS : FI := ⟨202, [.rat, .rat], [(.n 68719476736), (.n 68719476736)], fun _ => [], fun b z => (fun (x : Rat) (y : Rat) => .c (.agg [.dt .rat (.n ((b0 b).nb + (b1 b).nb)) (x / y)])) z.1 z.2⟩
theorem TT : TS.OK Tryz.prog := mkF hmix 14 Tryz.func202 rfl rfl (by decide) [(60, .c OY)] (fun _ => rfl) (fun _ => rfl) (fun _ _ => rfl) (fun (x : Rat) (y : Rat) b hx hp => qW (wv (Bnds.h2 hx).1 (Bnds.h2 hx).2)) (fun (x : Rat) (y : Rat) hx hp => by
 exact ⟨.nil, kcast (by kernel_rfl) ((Eq.refl (x / y)))⟩)
abbrev TR : Ctr Tryz.prog := FI.c TT
abbrev Ig (n : Nat) : FI := ⟨176, [(.sl .rat), (.nat .i64), (.int .i64), (.nat .i64), .rat], [(.s 1048576 (.n 16384)), (.n 2097152), (.n 8), (.n 2097152), (.n 16384)], fun z => (fun (k : List Rat) (i : Nat) (d : Int) (at_ : Nat) (t : Rat) => [d.toNat < n, Bnd (.sl .rat) (.s 64 (.n 4096)) k, Bnd .rat (.n 4096) t, 0 ≤ d, d ≤ 6, i + d.toNat + 1 < k.length]) z.1 z.2.1 z.2.2.1 z.2.2.2.1 z.2.2.2.2, fun b z => (fun (k : List Rat) (i : Nat) (d : Int) (at_ : Nat) (t : Rat) => .c (.agg [.dt .rat (.n (4194304)) (bsp k t at_ d.toNat i)])) z.1 z.2.1 z.2.2.1 z.2.2.2.1 z.2.2.2.2⟩
theorem Xi (n : Nat) (ih : (Ig n).OK Tryz.prog) : (Ig (n + 1)).OK Tryz.prog := mkF hmix 92 Tryz.func176 rfl rfl (by decide) [(31, .c wY), (32, .c FH), (34, .c P1), (62, .c BH), (176, .c (FI.c ih)), (202, .c TR)] (fun _ => rfl) (fun _ => rfl) (fun _ _ => rfl) (fun (k : List Rat) (i : Nat) (d : Int) (at_ : Nat) (t : Rat) b hx hp => qW (Mq (fun v hv => (hp _ (List.mem_cons_of_mem _ (List.mem_cons_self))).2 v hv) (hp _ (List.mem_cons_of_mem _ (List.mem_cons_of_mem _ (List.mem_cons_self)))) at_ (hp _ (List.mem_cons_of_mem _ (List.mem_cons_of_mem _ (List.mem_cons_of_mem _ (List.mem_cons_of_mem _ (List.mem_cons_self)))))) i)) (fun (k : List Rat) (i : Nat) (d : Int) (at_ : Nat) (t : Rat) hx hp => by
 have hl0 : k.length ≤ 1048576 := hx.1.1
 have hx1 : i ≤ 2097152 := hx.2.1
 have hx2 : Int.natAbs d ≤ 8 := hx.2.2.1
 have hx3 : at_ ≤ 2097152 := hx.2.2.2.1
 have hp0 : d.toNat < (n + 1) := hp _ (List.mem_cons_self)
 have hp1 : Bnd (.sl .rat) (.s 64 (.n 4096)) k := hp _ (List.mem_cons_of_mem _ (List.mem_cons_self))
 have hp2 : Bnd .rat (.n 4096) t := hp _ (List.mem_cons_of_mem _ (List.mem_cons_of_mem _ (List.mem_cons_self)))
 have hp3 : 0 ≤ d := hp _ (List.mem_cons_of_mem _ (List.mem_cons_of_mem _ (List.mem_cons_of_mem _ (List.mem_cons_self))))
 have hp4 : d ≤ 6 := hp _ (List.mem_cons_of_mem _ (List.mem_cons_of_mem _ (List.mem_cons_of_mem _ (List.mem_cons_of_mem _ (List.mem_cons_self)))))
 have hp5 : i + d.toNat + 1 < k.length := hp _ (List.mem_cons_of_mem _ (List.mem_cons_of_mem _ (List.mem_cons_of_mem _ (List.mem_cons_of_mem _ (List.mem_cons_of_mem _ (List.mem_cons_self))))))
 exact ⟨.cond (.nil) (.cond (.nil) (.cond (.nil) (.h 7 10 (.ix (i + d.toNat)) (.h 8 5 (.ix (i + d.toNat + 1)) (.h 8 14 (.ix (i + d.toNat + 1)) (.h 9 4 (.i (.z (d - 1) 8)) (.h 9 12 (.i (.n (i + 1) 2097152)) (.h 9 14 (.i (.z (d - 1) 8)) (.nil))))))))), kcast (by kernel_rfl) (And.intro (fun (h1 : d = 0) => And.intro (fun (h2 : i = at_) => (Wv h1 h2 : ((1 : Int) : Rat) = bsp k t at_ d.toNat i)) (fun (h3 : ¬ (i = at_)) => (Wu h1 h3 : 0 = bsp k t at_ d.toNat i))) (fun (h4 : ¬ (d = 0)) => And.intro (fun (h5 : at_ < i) => (JS (by omega) (by omega) : 0 = bsp k t at_ d.toNat i)) (fun (h6 : ¬ (at_ < i)) => And.intro (fun (h7 : (i : Int) + d < (at_ : Int)) => (JS (by omega) (by omega) : 0 = bsp k t at_ d.toNat i)) (fun (h8 : ¬ ((i : Int) + d < (at_ : Int))) => I (by omega : i < k.length) (I (by omega : (i : Int) + d = ((i + d.toNat : Nat) : Int)) (I (by omega : i + d.toNat < k.length) (I (by omega : i < k.length) (I (by omega : ((i : Int) + d) + 1 = ((i + d.toNat + 1 : Nat) : Int)) (I (by omega : i + d.toNat + 1 < k.length) (I (by omega : ((i : Int) + d) + 1 = ((i + d.toNat + 1 : Nat) : Int)) (I (by omega : i + d.toNat + 1 < k.length) (I (by omega : i + 1 < k.length) (I (vn rfl (by omega) : qo .sub .i64 d 1 (d - 1)) (I (by omega : Int.natAbs (d - 1) ≤ 8) (I (by omega : (d - 1).toNat < n) (I (hp1 : Bnd (.sl .rat) (.s 64 (.n 4096)) k) (I (hp2 : Bnd .rat (.n 4096) t) (I (by omega : 0 ≤ d - 1) (I (by omega : d - 1 ≤ 6) (I (by omega : i + (d - 1).toNat + 1 < k.length) (I (Pc rfl (by omega) : qo .add .i64 (i : Int) 1 ((i + 1 : Nat) : Int)) (I (by have := hp1.1; omega : i + 1 ≤ 2097152) (I (vn rfl (by omega) : qo .sub .i64 d 1 (d - 1)) (I (by omega : Int.natAbs (d - 1) ≤ 8) (I (by omega : (d - 1).toNat < n) (I (hp1 : Bnd (.sl .rat) (.s 64 (.n 4096)) k) (I (hp2 : Bnd .rat (.n 4096) t) (I (by omega : 0 ≤ d - 1) (I (by omega : d - 1 ≤ 6) (I (by omega : (i + 1) + (d - 1).toNat + 1 < k.length) ((Ww (by omega) (by omega) : (((t - (k.getD i 0)) / ((k.getD (i + d.toNat) 0) - (k.getD i 0))) * (bsp k t at_ (d - 1).toNat i)) + ((((k.getD (i + d.toNat + 1) 0) - t) / ((k.getD (i + d.toNat + 1) 0) - (k.getD (i + 1) 0))) * (bsp k t at_ (d - 1).toNat (i + 1))) = bsp k t at_ d.toNat i))))))))))))))))))))))))))))))))⟩)
theorem Nm : ∀ n, (Ig n).OK Tryz.prog
 | 0 => FI.none (fun _ hp => Nat.not_lt_zero _ (hp _ List.mem_cons_self)) (fun _ _ => rfl)
 | n + 1 => Xi n (Nm n)
abbrev Xh : Ctr Tryz.prog := FI.c (Nm 8)
abbrev TV : FI := ⟨127, [(.sl .rat), (.int .i64), .rat], [(.s 1048576 (.n 16384)), (.n 8), (.n 16384)], fun z => (fun (k : List Rat) (d : Int) (t : Rat) => [Bnd (.sl .rat) (.s 64 (.n 4096)) k, Bnd .rat (.n 4096) t, 0 ≤ d, d ≤ 6, 2 * d.toNat + 2 ≤ k.length, ivO k t ∨ d.toNat ≤ ivI k d t]) z.1 z.2.1 z.2.2, fun b z => (fun (k : List Rat) (d : Int) (t : Rat) => .tup [.one (.dt (.nat .i64) (.n 1048577) (ivI k d t - d.toNat)), .one (.dt (.sl .rat) (.s 7 (.n 4194304)) (bvlL k d t)), .one (.dt (.int .i64) (.n 7) (ivE k t))]) z.1 z.2.1 z.2.2⟩
theorem TW : TV.OK Tryz.prog := mkF hmix 44 Tryz.func127 rfl rfl (by decide) [(74, .c G2), (176, .c Xh)] (fun _ => rfl) (fun _ => rfl) (fun _ _ => rfl) (fun (k : List Rat) (d : Int) (t : Rat) b hx hp => by have h1 : Bnd (.sl .rat) (.s 64 (.n 4096)) k := hp _ (List.mem_cons_self); have h2 : Bnd .rat (.n 4096) t := hp _ (List.mem_cons_of_mem _ (List.mem_cons_self)); have h4 : d ≤ 6 := hp _ (List.mem_cons_of_mem _ (List.mem_cons_of_mem _ (List.mem_cons_of_mem _ (List.mem_cons_self)))); have h := N5 k d t; have l := HM k d t; exact qd (q9 (show ivI k d t - d.toNat ≤ 1048577 by have := h1.1; omega) rfl) (qd (q9 ⟨show (bvlL k d t).length ≤ 7 by omega, L2 (fun v hv => h1.2 v hv) h2 h4⟩ rfl) (qd (q9 (Dr k t) rfl) qR))) (fun (k : List Rat) (d : Int) (t : Rat) hx hp => by
 have hl0 : k.length ≤ 1048576 := hx.1.1
 have hx1 : Int.natAbs d ≤ 8 := hx.2.1
 have hp0 : Bnd (.sl .rat) (.s 64 (.n 4096)) k := hp _ (List.mem_cons_self)
 have hp1 : Bnd .rat (.n 4096) t := hp _ (List.mem_cons_of_mem _ (List.mem_cons_self))
 have hp2 : 0 ≤ d := hp _ (List.mem_cons_of_mem _ (List.mem_cons_of_mem _ (List.mem_cons_self)))
 have hp3 : d ≤ 6 := hp _ (List.mem_cons_of_mem _ (List.mem_cons_of_mem _ (List.mem_cons_of_mem _ (List.mem_cons_self))))
 have hp4 : 2 * d.toNat + 2 ≤ k.length := hp _ (List.mem_cons_of_mem _ (List.mem_cons_of_mem _ (List.mem_cons_of_mem _ (List.mem_cons_of_mem _ (List.mem_cons_self)))))
 have hp5 : ivO k t ∨ d.toNat ≤ ivI k d t := hp _ (List.mem_cons_of_mem _ (List.mem_cons_of_mem _ (List.mem_cons_of_mem _ (List.mem_cons_of_mem _ (List.mem_cons_of_mem _ (List.mem_cons_self))))))
 exact ⟨.cond (.nil) (.h 5 2 (.i (.n (ivI k d t - d.toNat) 1048576)) (.loop [.s 12 (.nat .i64) (.n 1048577), .g 11 90001 .rat (.n 4194304) 64] (fun ((i, out) : Nat × List Rat) => out = bvN k d t (i - (ivI k d t - d.toNat)) ∧ ivI k d t - d.toNat ≤ i ∧ i ≤ ivI k d t + 1) (fun ((i, out) : Nat × List Rat) => ivI k d t + 1 - i) (fun ((i, out) : Nat × List Rat) => .cond (.h 8 7 (.mk (.im .rat (.n 4194304))) (.nil)) (.h 9 2 (.i (.n (ivI k d t - d.toNat) 1048576)) (.pre 999999 (.frz 90001 true [6, 7, 8]) (.nil)))))), kcast (by kernel_rfl) (I (by omega : 0 ≤ d) (I (by omega : d.toNat + 2 ≤ k.length) (And.intro (fun (h1 : ivE k t ≠ 0) => And.intro (ZT h1 : 0 = ivI k d t - d.toNat) (And.intro (ZU h1 : [] = bvlL k d t) (Eq.refl (ivE k t)))) (fun (h2 : ¬ (ivE k t ≠ 0)) => have hO := (F5 h2); have hiv := hp5.resolve_left hO; have hle := (K8 (k := k) (d := d) (t := t)); I (vn (by omega) (by omega) : qo .sub .i64 ((ivI k d t : Nat) : Int) d ((ivI k d t - d.toNat : Nat) : Int)) (I (by omega : ivI k d t - d.toNat ≤ 1048576) (I (rfl : 0 = ([] : List Rat).length) (I (⟨by rw [Nat.sub_self]; rfl, by omega, by omega⟩ : ([] : List Rat) = bvN k d t ((ivI k d t - d.toNat) - (ivI k d t - d.toNat)) ∧ ivI k d t - d.toNat ≤ (ivI k d t - d.toNat) ∧ (ivI k d t - d.toNat) ≤ ivI k d t + 1) (fun (i : Nat) (out : List Rat) (hb3 : HB [.s 12 (.nat .i64) (.n 1048577), .g 11 90001 .rat (.n 4194304) 64] (i, out)) (hI : out = bvN k d t (i - (ivI k d t - d.toNat)) ∧ ivI k d t - d.toNat ≤ i ∧ i ≤ ivI k d t + 1) => have hv6 := (show i ≤ 1048577 from hb3.1); have hv7 := (show out.length ≤ 64 from hb3.2.1); have hI1 := hI.2.1; have hI2 := hI.2.2; have hol := (show out.length = i - (ivI k d t - d.toNat) from by rw [hI.1, SM]); And.intro (fun (h4 : i ≤ ivI k d t) => I (by omega : d.toNat < 8) (I (hp0 : Bnd (.sl .rat) (.s 64 (.n 4096)) k) (I (hp1 : Bnd .rat (.n 4096) t) (I (by omega : 0 ≤ d) (I (by omega : d ≤ 6) (I (by omega : i + d.toNat + 1 < k.length) (I (by omega : out.length = out.length) (I (show (i + 1) ≤ 1048577 by omega : Bnd (.nat .i64) (.n 1048577) (i + 1)) (I (by (try simp only [List.length_append, List.length_cons, List.length_nil]) <;> omega : out.length + [bsp k t (ivI k d t) d.toNat i].length = (out ++ [bsp k t (ivI k d t) d.toNat i]).length) (I (by (try simp only [List.length_append, List.length_cons, List.length_nil]) <;> omega : out.length + [bsp k t (ivI k d t) d.toNat i].length ≤ 64) (And.intro (⟨by rw [hI.1, Pj (by omega), show i + 1 - (ivI k d t - d.toNat) = i - (ivI k d t - d.toNat) + 1 by omega], by omega, by omega⟩ : (out ++ [bsp k t (ivI k d t) d.toNat i]) = bvN k d t ((i + 1) - (ivI k d t - d.toNat)) ∧ ivI k d t - d.toNat ≤ (i + 1) ∧ (i + 1) ≤ ivI k d t + 1) (by omega : ivI k d t + 1 - (i + 1) < ivI k d t + 1 - i)))))))))))) (fun (h5 : ¬ (i ≤ ivI k d t)) => I (vn (by omega) (by omega) : qo .sub .i64 ((ivI k d t : Nat) : Int) d ((ivI k d t - d.toNat : Nat) : Int)) (I (by omega : ivI k d t - d.toNat ≤ 1048576) (I (by omega : out.length = out.length) (And.intro (Eq.refl (ivI k d t - d.toNat)) (And.intro (by rw [hI.1, show i - (ivI k d t - d.toNat) = d.toNat + 1 by omega, SL hO] : out = bvlL k d t) (Hn hO : 0 = ivE k t))))))))))))))⟩)
abbrev TU : Ctr Tryz.prog := FI.c TW
abbrev TK : FI := ⟨75, [(.pr .rat (.pr .rat (.pr .rat .rat)))], [(.p (.n 1073741824) (.p (.n 1073741824) (.p (.n 1073741824) (.n 1073741824))))], fun _ => [], fun b z => (fun (h : Rat × Rat × Rat × Rat) => .c (.agg [.dt (.pr tV3 .rat) (.p (bV3 (2 * (b0 b).mx + 2)) (.n (2 * (b0 b).mx + 2))) (ja h)])) z⟩
theorem TL : TK.OK Tryz.prog := mkF hmix 18 Tryz.func75 rfl rfl (by decide) [(31, .c wY), (43, .c Db), (126, .c VY)] (fun _ => rfl) (fun _ => rfl) (fun _ _ => rfl) (fun (h : Rat × Rat × Rat × Rat) b hx hp => qT (FU (Bnds.h1 hx))) (fun (h : Rat × Rat × Rat × Rat) hx hp => by
 exact ⟨.nil, kcast (by kernel_rfl) ((rfl : (jc (((1 : Int) : Rat) / h.2.2.2) (h.1, h.2.1, h.2.2.1), h.2.2.2) = ja h))⟩)
abbrev K9 : Ctr Tryz.prog := FI.c TL
abbrev Xj : FI := ⟨76, [(.pr (.int .i64) (.pr (.sl .rat) (.sl (.pr (.pr .rat (.pr .rat .rat)) .rat)))), .rat], [(.p (.n 8) (.p (.s 1048576 (.n 16384)) (.s 1048576 (.p (.p (.n 262144) (.p (.n 262144) (.n 262144))) (.n 262144))))), (.n 16384)], fun z => (fun (c : Int × List Rat × List ((Rat × Rat × Rat) × Rat)) (t : Rat) => [EvC c t, ¬ ivO c.2.1 t]) z.1 z.2, fun b z => (fun (c : Int × List Rat × List ((Rat × Rat × Rat) × Rat)) (t : Rat) => .c (.agg [.dt tF4 (bF4 33554432) (homV c t)])) z.1 z.2⟩
theorem Xk : Xj.OK Tryz.prog := mkF hmix 55 Tryz.func76 rfl rfl (by decide) [(32, .c FH), (62, .c BH), (127, .c TU), (128, .c VJ)] (fun _ => rfl) (fun _ => rfl) (fun _ _ => rfl) (fun (c : Int × List Rat × List ((Rat × Rat × Rat) × Rat)) (t : Rat) b hx hp => qT (N1 (hp _ (List.mem_cons_self)))) (fun (c : Int × List Rat × List ((Rat × Rat × Rat) × Rat)) (t : Rat) hx hp => by
 have hp0 : EvC c t := hp _ (List.mem_cons_self)
 have hp1 : ¬ ivO c.2.1 t := hp _ (List.mem_cons_of_mem _ (List.mem_cons_self))
 exact ⟨.loop [.s 9 (.nat .i64) (.n 8), .r 8 (.pr .rat (.pr .rat (.pr .rat .rat))) (.p (.n 33554432) (.p (.n 33554432) (.p (.n 33554432) (.n 33554432))))] (fun ((i, o) : Nat × Rat × Rat × Rat × Rat) => o = homN c.2.2 (bvc c t) (ivI c.2.1 c.1 t - c.1.toNat) i ∧ i ≤ c.1.toNat + 1) (fun ((i, o) : Nat × Rat × Rat × Rat × Rat) => c.1.toNat + 1 - i) (fun ((i, o) : Nat × Rat × Rat × Rat × Rat) => .nil), kcast (by kernel_rfl) (have hd0 := hp0.d0; have hd6 := hp0.d6; have hkl := hp0.kl; have hpl := hp0.pl; have hiv := (hp0.iv.resolve_left hp1); have hle := (K8 (k := c.2.1) (d := c.1) (t := t)); have hbl := (FN (d := c.1) hp1 : (bvc c t).length = c.1.toNat + 1); I (hp0.kb : Bnd (.sl .rat) (.s 64 (.n 4096)) c.2.1) (I (hp0.tb : Bnd .rat (.n 4096) t) (I (by omega : 0 ≤ c.1) (I (by omega : c.1 ≤ 6) (I (by omega : 2 * c.1.toNat + 2 ≤ c.2.1.length) (I (hp0.iv : ivO c.2.1 t ∨ c.1.toNat ≤ ivI c.2.1 c.1 t) (I (⟨rfl, by omega⟩ : (0, 0, 0, 0) = homN c.2.2 (bvc c t) (ivI c.2.1 c.1 t - c.1.toNat) 0 ∧ 0 ≤ c.1.toNat + 1) (fun (i : Nat) (o : Rat × Rat × Rat × Rat) (hb1 : HB [.s 9 (.nat .i64) (.n 8), .r 8 (.pr .rat (.pr .rat (.pr .rat .rat))) (.p (.n 33554432) (.p (.n 33554432) (.p (.n 33554432) (.n 33554432))))] (i, o)) (hI : o = homN c.2.2 (bvc c t) (ivI c.2.1 c.1 t - c.1.toNat) i ∧ i ≤ c.1.toNat + 1) => have hv4 := (show i ≤ 8 from hb1.1); have hI1 := hI.2; And.intro (fun (h2 : i < (bvlL c.2.1 c.1 t).length) => I (by omega : (ivI c.2.1 c.1 t - c.1.toNat) + i < c.2.2.length) (I (by omega : i < (bvlL c.2.1 c.1 t).length) (I (by omega : i < (bvlL c.2.1 c.1 t).length) (I (by omega : i < (bvlL c.2.1 c.1 t).length) (I (by omega : i < (bvlL c.2.1 c.1 t).length) (I ((show i + 1 ≤ 8 by omega) : Bnd (.nat .i64) (.n 8) (i + 1)) (I ((by rw [hI.1]; exact TB hp0 (show i + 1 ≤ 7 by omega)) : Bnd (.pr .rat (.pr .rat (.pr .rat .rat))) (.p (.n 33554432) (.p (.n 33554432) (.p (.n 33554432) (.n 33554432)))) (o.1 + (((bvlL c.2.1 c.1 t).getD i 0) * ((qf (c.2.2.getD ((ivI c.2.1 c.1 t - c.1.toNat) + i) ((0, (0, 0)), 0))).1)), o.2.1 + (((bvlL c.2.1 c.1 t).getD i 0) * (((qf (c.2.2.getD ((ivI c.2.1 c.1 t - c.1.toNat) + i) ((0, (0, 0)), 0))).2).1)), o.2.2.1 + (((bvlL c.2.1 c.1 t).getD i 0) * ((((qf (c.2.2.getD ((ivI c.2.1 c.1 t - c.1.toNat) + i) ((0, (0, 0)), 0))).2).2).1)), o.2.2.2 + (((bvlL c.2.1 c.1 t).getD i 0) * ((((qf (c.2.2.getD ((ivI c.2.1 c.1 t - c.1.toNat) + i) ((0, (0, 0)), 0))).2).2).2)))) (And.intro (⟨by rw [hI.1]; rfl, by omega⟩ : (o.1 + (((bvlL c.2.1 c.1 t).getD i 0) * ((qf (c.2.2.getD ((ivI c.2.1 c.1 t - c.1.toNat) + i) ((0, (0, 0)), 0))).1)), o.2.1 + (((bvlL c.2.1 c.1 t).getD i 0) * (((qf (c.2.2.getD ((ivI c.2.1 c.1 t - c.1.toNat) + i) ((0, (0, 0)), 0))).2).1)), o.2.2.1 + (((bvlL c.2.1 c.1 t).getD i 0) * ((((qf (c.2.2.getD ((ivI c.2.1 c.1 t - c.1.toNat) + i) ((0, (0, 0)), 0))).2).2).1)), o.2.2.2 + (((bvlL c.2.1 c.1 t).getD i 0) * ((((qf (c.2.2.getD ((ivI c.2.1 c.1 t - c.1.toNat) + i) ((0, (0, 0)), 0))).2).2).2))) = homN c.2.2 (bvc c t) (ivI c.2.1 c.1 t - c.1.toNat) (i + 1) ∧ (i + 1) ≤ c.1.toNat + 1) (by omega : c.1.toNat + 1 - (i + 1) < c.1.toNat + 1 - i))))))))) (fun (h3 : ¬ (i < (bvlL c.2.1 c.1 t).length)) => (by rw [hI.1, show i = (bvlL c.2.1 c.1 t).length by omega]; rfl : o = homV c t))))))))))⟩)
abbrev Nn : Ctr Tryz.prog := FI.c Xk
abbrev TM : FI := ⟨20, [(.pr (.int .i64) (.pr (.sl .rat) (.sl (.pr (.pr .rat (.pr .rat .rat)) .rat)))), .rat], [(.p (.n 8) (.p (.s 1048576 (.n 16384)) (.s 1048576 (.p (.p (.n 262144) (.p (.n 262144) (.n 262144))) (.n 262144))))), (.n 16384)], fun z => (fun (c : Int × List Rat × List ((Rat × Rat × Rat) × Rat)) (t : Rat) => [EvC c t]) z.1 z.2, fun b z => (fun (c : Int × List Rat × List ((Rat × Rat × Rat) × Rat)) (t : Rat) => .tup [.agg [.dt tV3 (bV3 67108868) (evV c t)], .one (.dt (.int .i64) (.n 7) (ivE c.2.1 t))]) z.1 z.2⟩
theorem TN : TM.OK Tryz.prog := mkF hmix 26 Tryz.func20 rfl rfl (by decide) [(74, .c G2), (75, .c K9), (76, .c Nn)] (fun _ => rfl) (fun _ => rfl) (fun _ _ => rfl) (fun (c : Int × List Rat × List ((Rat × Rat × Rat) × Rat)) (t : Rat) b hx hp => qd (qT (Se (hp _ (List.mem_cons_self)))) (qd (q9 (Dr _ t) rfl) qR)) (fun (c : Int × List Rat × List ((Rat × Rat × Rat) × Rat)) (t : Rat) hx hp => by
 have hp0 : EvC c t := hp _ (List.mem_cons_self)
 exact ⟨.nil, kcast (by kernel_rfl) (have hd0 := hp0.d0; have hkl := hp0.kl; I (by omega : 0 ≤ c.1) (I (by omega : c.1.toNat + 2 ≤ c.2.1.length) (And.intro (fun (h1 : ivE c.2.1 t ≠ 0) => And.intro (ZI h1 : (0, 0, 0) = evV c t) (Eq.refl (ivE c.2.1 t))) (fun (h2 : ¬ (ivE c.2.1 t ≠ 0)) => I (hp0 : EvC c t) (I (F5 (by assumption) : ¬ ivO c.2.1 t) (And.intro (ZJ h2 : (ja (homV c t)).1 = evV c t) (Hn (F5 h2) : 0 = ivE c.2.1 t)))))))⟩)
abbrev Ka : Ctr Tryz.prog := FI.c TN
abbrev T4 : FI := ⟨21, [(.int .i64)], [(.n 9223372036854775808)], fun _ => [], fun b z => (fun (x : Int) => .c (.agg [.dt .rat (.n (5)) (jt x)])) z⟩
theorem T5 : T4.OK Tryz.prog := mkF hmix 14 Tryz.func21 rfl rfl (by decide) [(12, .c MB), (33, .c DK)] (fun _ => rfl) (fun _ => rfl) (fun _ _ => rfl) (fun (x : Int) b hx hp => qW (Gd x)) (fun (x : Int) hx hp => by
 have hx0 : Int.natAbs x ≤ 9223372036854775808 := hx
 exact ⟨.h 1 1 (.i (.z (Int.tdiv x 17) 1152921504606846976)) (.nil), kcast (by kernel_rfl) (have hdr := (Gc x); I (SD hx0 : qo .quo .i64 x 17 (Int.tdiv x 17)) (I (J8 hx0 : Int.natAbs (Int.tdiv x 17) ≤ 1152921504606846976) (I (by omega : (0 : Int) < 12) (I (by omega : (0 : Int) < (1 + ((Int.tdiv x 17) % 12)) + 1) ((rfl : ((x % ((1 + ((Int.tdiv x 17) % 12)) + 1) : Int) : Rat) / ((1 + ((Int.tdiv x 17) % 12) : Int) : Rat) = jt x))))))⟩)
abbrev JY : Ctr Tryz.prog := FI.c T5
abbrev QW : FI := ⟨135, [.rat], [(.n 68719476736)], fun _ => [], fun b z => .c (.one (.vl (.bool true)))⟩
theorem QX : QW.OK Tryz.prog := mkF hmix 52 Tryz.func135 rfl rfl (by decide) [(93, .c Ag), (157, .c gcd_c), (184, .c Qk)] (fun _ => rfl) (fun _ => rfl) (fun _ _ => rfl) (fun (x : Rat) b hx hp => zO rfl) (fun (x : Rat) hx hp => by
 have hx0 : Bnd .rat (.n 68719476736) x := hx
 have hx0 : Bnd .rat (.n 68719476736) x := hx
 exact ⟨.cond (.cond (.dead) (.cond (.cond (.nil) (.dead)) (.cond (.nil) (.h 5 8 (.mag x.den 68719476737) (.nil))))) (.cond (.cond (.nil) (.dead)) (.cond (.nil) (.h 5 8 (.mag x.den 68719476737) (.nil)))), kcast (by kernel_rfl) (I (zS _ : (limbs x.num.natAbs).length = 0 ∨ (limbs x.num.natAbs).getD ((limbs x.num.natAbs).length - 1) 0 ≠ 0) (I (GE x.den : (denL x.den).length = 0 ∨ (denL x.den).getD ((denL x.den).length - 1) 0 ≠ 0) (And.intro (fun (h1 : (denL x.den).length = 1) => I (by omega : 0 < (denL x.den).length) (And.intro (fun (h2 : (denL x.den).getD 0 0 = 1) => (KK h1 h2 : False)) (fun (h3 : ¬ ((denL x.den).getD 0 0 = 1)) => And.intro (fun (h4 : (limbs x.num.natAbs).length = 0) => And.intro (fun (h5 : ¬ (x.num < 0)) => (OB h4 : (denL x.den).length = 0)) (fun (h6 : ¬ (¬ (x.num < 0))) => (DI h4 (Decidable.of_not_not h6) : False))) (fun (h7 : ¬ ((limbs x.num.natAbs).length = 0)) => And.intro (fun (h8 : (denL x.den).length = 0) => trivial) (fun (h9 : ¬ ((denL x.den).length = 0)) => I (Mx (by assumption) : denL x.den = limbs x.den) (I (z6 hx0.2 : lt2 x.den 68719476737) ((Mn x : bl (Nat.gcd x.num.natAbs x.den) = 1)))))))) (fun (h10 : ¬ ((denL x.den).length = 1)) => And.intro (fun (h11 : (limbs x.num.natAbs).length = 0) => And.intro (fun (h12 : ¬ (x.num < 0)) => (OB h11 : (denL x.den).length = 0)) (fun (h13 : ¬ (¬ (x.num < 0))) => (DI h11 (Decidable.of_not_not h13) : False))) (fun (h14 : ¬ ((limbs x.num.natAbs).length = 0)) => And.intro (fun (h15 : (denL x.den).length = 0) => trivial) (fun (h16 : ¬ ((denL x.den).length = 0)) => I (Mx (by assumption) : denL x.den = limbs x.den) (I (z6 hx0.2 : lt2 x.den 68719476737) ((Mn x : bl (Nat.gcd x.num.natAbs x.den) = 1)))))))))⟩)
abbrev QV : Ctr Tryz.prog := FI.c QX
abbrev Zo : FI := ⟨134, [.rat], [(.n 68719476736)], fun _ => [], fun b z => .c (.one (.vl (.bool false)))⟩
theorem Zp : Zo.OK Tryz.prog := mkF hmix 6 Tryz.func134 rfl rfl (by decide) [(135, .c QV)] (fun _ => rfl) (fun _ => rfl) (fun _ _ => rfl) (fun (x : Rat) b hx hp => zO rfl) (fun (x : Rat) hx hp => by
 exact ⟨.nil, kcast (by kernel_rfl) (trivial)⟩)
abbrev Zn : Ctr Tryz.prog := FI.c Zp
abbrev Zr : FI := ⟨139, [(.pr (.pr .rat (.pr .rat .rat)) .rat)], [(.p (.p (.n 1073741824) (.p (.n 1073741824) (.n 1073741824))) (.n 1073741824))], fun _ => [], fun b z => (fun (p : (Rat × Rat × Rat) × Rat) => .c (.one (.dt .bool .u (decide (sgnQ p.2 ≤ 0))))) z⟩
theorem Zs : Zr.OK Tryz.prog := mkF hmix 7 Tryz.func139 rfl rfl (by decide) [(53, .c Ad)] (fun _ => rfl) (fun _ => rfl) (fun _ _ => rfl) (fun (p : (Rat × Rat × Rat) × Rat) b hx hp => q9 trivial rfl) (fun (p : (Rat × Rat × Rat) × Rat) hx hp => by
 exact ⟨.nil, kcast (by kernel_rfl) ((Eq.refl (decide (sgnQ p.2 ≤ 0))))⟩)
abbrev Zq : Ctr Tryz.prog := FI.c Zs
abbrev Zu : FI := ⟨140, [.rat], [(.n 68719476736)], fun _ => [], fun b z => (fun (x : Rat) => .c (.one (.dt .bool .u (decide (2048 < j5 x))))) z⟩
theorem Zv : Zu.OK Tryz.prog := mkF hmix 6 Tryz.func140 rfl rfl (by decide) [(141, .c UG)] (fun _ => rfl) (fun _ => rfl) (fun _ _ => rfl) (fun (x : Rat) b hx hp => q9 trivial rfl) (fun (x : Rat) hx hp => by
 exact ⟨.nil, kcast (by kernel_rfl) ((decide_eq_decide.2 (by unfold j5; omega) : decide (2048 < max ((bl x.num.natAbs : Nat) : Int) ((bl x.den : Nat) : Int)) = decide (2048 < j5 x)))⟩)
abbrev Zt : Ctr Tryz.prog := FI.c Zv
abbrev q05 : FI := ⟨183, [(.sl .rat), (.fn 134)], [(.s 8388608 (.n 68719476736)), .u], fun _ => [], fun b z => .c (.one (.kn .i64 (-1)))⟩
theorem q06 : q05.OK Tryz.prog := mkF hmix 19 Tryz.func183 rfl rfl (by decide) [(134, .c Zn)] (fun _ => rfl) (fun _ => rfl) (fun _ _ => rfl) (fun (l : List Rat) (u : Unit) b hx hp => wc) (fun (l : List Rat) (u : Unit) hx hp => by
 have hl0 : l.length ≤ 8388608 := hx.1.1
 exact ⟨.loop [.s 8 (.nat .i64) (.n 8388608)] (fun (i : Nat) => i ≤ l.length) (fun (i : Nat) => l.length - i) (fun (i : Nat) => .nil), kcast (by kernel_rfl) (I (Nat.zero_le _ : 0 ≤ l.length) (fun (i : Nat) (hb1 : HB [.s 8 (.nat .i64) (.n 8388608)] i) (hI : i ≤ l.length) => have hv4 := (show i ≤ 8388608 from hb1); And.intro (fun (h2 : i < l.length) => I (by omega : i < l.length) (I (show (i + 1) ≤ 8388608 by omega : Bnd (.nat .i64) (.n 8388608) (i + 1)) (And.intro ((by omega) : (i + 1) ≤ l.length) (by omega : l.length - (i + 1) < l.length - i)))) (fun (h3 : ¬ (i < l.length)) => trivial)))⟩)
abbrev q04 : Ctr Tryz.prog := FI.c q06
abbrev q02 : FI := ⟨133, [(.sl .rat), (.fn 134)], [(.s 8388608 (.n 68719476736)), .u], fun _ => [], fun b z => .c (.one (.vl (.bool false)))⟩
theorem q03 : q02.OK Tryz.prog := mkF hmix 9 Tryz.func133 rfl rfl (by decide) [(183, .c q04)] (fun _ => rfl) (fun _ => rfl) (fun _ _ => rfl) (fun (l : List Rat) (u : Unit) b hx hp => zO rfl) (fun (l : List Rat) (u : Unit) hx hp => by
 exact ⟨.nil, kcast (by kernel_rfl) (trivial)⟩)
abbrev q01 : Ctr Tryz.prog := FI.c q03
abbrev ZZ : FI := ⟨183, [(.sl .rat), (.fn 140)], [(.s 8388608 (.n 68719476736)), .u], fun _ => [], fun b z => (fun (l : List Rat) (u : Unit) => .c (.one (.dt (.int .i64) (.n ((b0 b).len + 1)) (fidx (fun j => decide (2048 < j5 (l.getD j 0))) 0 l.length)))) z.1 z.2⟩
theorem q00 : ZZ.OK Tryz.prog := mkF hmix 19 Tryz.func183 rfl rfl (by decide) [(140, .c Zt)] (fun _ => rfl) (fun _ => rfl) (fun _ _ => rfl) (fun (l : List Rat) (u : Unit) b hx hp => q9 (show Int.natAbs (fidx (fun j => decide (2048 < j5 (l.getD j 0))) 0 l.length) ≤ (b0 b).len + 1 from by have h1 := I8 (fun j => decide (2048 < j5 (l.getD j 0))) l.length 0; have h2 := (Bnds.h2 hx).1.sl.1; omega) rfl) (fun (l : List Rat) (u : Unit) hx hp => by
 have hl0 : l.length ≤ 8388608 := hx.1.1
 exact ⟨.loop [.s 8 (.nat .i64) (.n 8388608)] (fun (i : Nat) => fidx (fun j => decide (2048 < j5 (l.getD j 0))) i (l.length - i) = fidx (fun j => decide (2048 < j5 (l.getD j 0))) 0 l.length ∧ i ≤ l.length) (fun (i : Nat) => l.length - i) (fun (i : Nat) => .nil), kcast (by kernel_rfl) (I (⟨rfl, Nat.zero_le _⟩ : fidx (fun j => decide (2048 < j5 (l.getD j 0))) 0 (l.length - 0) = fidx (fun j => decide (2048 < j5 (l.getD j 0))) 0 l.length ∧ 0 ≤ l.length) (fun (i : Nat) (hb1 : HB [.s 8 (.nat .i64) (.n 8388608)] i) (hI : fidx (fun j => decide (2048 < j5 (l.getD j 0))) i (l.length - i) = fidx (fun j => decide (2048 < j5 (l.getD j 0))) 0 l.length ∧ i ≤ l.length) => have hv6 := (show i ≤ 8388608 from hb1); have hIi := hI.2; And.intro (fun (h2 : i < l.length) => I (by omega : i < l.length) (And.intro (fun (h3 : decide (2048 < j5 (l.getD i 0)) = true) => (Ia hI.1 (by omega) (show decide (2048 < j5 (l.getD i 0)) = true from h3) : (i : Int) = fidx (fun j => decide (2048 < j5 (l.getD j 0))) 0 l.length)) (fun (h4 : ¬ (decide (2048 < j5 (l.getD i 0)) = true)) => I (show (i + 1) ≤ 8388608 by omega : Bnd (.nat .i64) (.n 8388608) (i + 1)) (And.intro (⟨K1 hI.1 (by omega) (show ¬ decide (2048 < j5 (l.getD i 0)) = true from h4), by omega⟩ : fidx (fun j => decide (2048 < j5 (l.getD j 0))) (i + 1) (l.length - (i + 1)) = fidx (fun j => decide (2048 < j5 (l.getD j 0))) 0 l.length ∧ (i + 1) ≤ l.length) (by omega : l.length - (i + 1) < l.length - i))))) (fun (h5 : ¬ (i < l.length)) => (I9 hI.1 (by omega) : (-1) = fidx (fun j => decide (2048 < j5 (l.getD j 0))) 0 l.length))))⟩)
abbrev ZY : Ctr Tryz.prog := FI.c q00
abbrev ZW : FI := ⟨133, [(.sl .rat), (.fn 140)], [(.s 8388608 (.n 68719476736)), .u], fun _ => [], fun b z => (fun (l : List Rat) (u : Unit) => .c (.one (.dt .bool .u (decide (0 ≤ fidx (fun j => decide (2048 < j5 (l.getD j 0))) 0 l.length))))) z.1 z.2⟩
theorem ZX : ZW.OK Tryz.prog := mkF hmix 9 Tryz.func133 rfl rfl (by decide) [] (fun _ => rfl) (fun _ => rfl) (fun _ _ => rfl) (fun (l : List Rat) (u : Unit) b hx hp => q9 trivial rfl) (fun (l : List Rat) (u : Unit) hx hp => by
 exact ⟨.h 1 2 (.c ZY) (.nil), kcast (by kernel_rfl) ((Eq.refl (decide (0 ≤ fidx (fun j => decide (2048 < j5 (l.getD j 0))) 0 l.length))))⟩)
abbrev ZV : Ctr Tryz.prog := FI.c ZX
abbrev q0b : FI := ⟨188, [(.sl (.pr (.pr .rat (.pr .rat .rat)) .rat)), (.fn 139)], [(.s 8388608 (.p (.p (.n 1073741824) (.p (.n 1073741824) (.n 1073741824))) (.n 1073741824))), .u], fun _ => [], fun b z => (fun (l : List ((Rat × Rat × Rat) × Rat)) (u : Unit) => .c (.one (.dt (.int .i64) (.n ((b0 b).len + 1)) (fidx (fun j => decide (sgnQ (l.getD j ((0, (0, 0)), 0)).2 ≤ 0)) 0 l.length)))) z.1 z.2⟩
theorem q0c : q0b.OK Tryz.prog := mkF hmix 19 Tryz.func188 rfl rfl (by decide) [(139, .c Zq)] (fun _ => rfl) (fun _ => rfl) (fun _ _ => rfl) (fun (l : List ((Rat × Rat × Rat) × Rat)) (u : Unit) b hx hp => q9 (show Int.natAbs (fidx (fun j => decide (sgnQ (l.getD j ((0, (0, 0)), 0)).2 ≤ 0)) 0 l.length) ≤ (b0 b).len + 1 from by have h1 := I8 (fun j => decide (sgnQ (l.getD j ((0, (0, 0)), 0)).2 ≤ 0)) l.length 0; have h2 := (Bnds.h2 hx).1.sl.1; omega) rfl) (fun (l : List ((Rat × Rat × Rat) × Rat)) (u : Unit) hx hp => by
 have hl0 : l.length ≤ 8388608 := hx.1.1
 exact ⟨.loop [.s 8 (.nat .i64) (.n 8388608)] (fun (i : Nat) => fidx (fun j => decide (sgnQ (l.getD j ((0, (0, 0)), 0)).2 ≤ 0)) i (l.length - i) = fidx (fun j => decide (sgnQ (l.getD j ((0, (0, 0)), 0)).2 ≤ 0)) 0 l.length ∧ i ≤ l.length) (fun (i : Nat) => l.length - i) (fun (i : Nat) => .nil), kcast (by kernel_rfl) (I (⟨rfl, Nat.zero_le _⟩ : fidx (fun j => decide (sgnQ (l.getD j ((0, (0, 0)), 0)).2 ≤ 0)) 0 (l.length - 0) = fidx (fun j => decide (sgnQ (l.getD j ((0, (0, 0)), 0)).2 ≤ 0)) 0 l.length ∧ 0 ≤ l.length) (fun (i : Nat) (hb1 : HB [.s 8 (.nat .i64) (.n 8388608)] i) (hI : fidx (fun j => decide (sgnQ (l.getD j ((0, (0, 0)), 0)).2 ≤ 0)) i (l.length - i) = fidx (fun j => decide (sgnQ (l.getD j ((0, (0, 0)), 0)).2 ≤ 0)) 0 l.length ∧ i ≤ l.length) => have hv6 := (show i ≤ 8388608 from hb1); have hIi := hI.2; And.intro (fun (h2 : i < l.length) => I (by omega : i < l.length) (And.intro (fun (h3 : decide (sgnQ (l.getD i ((0, (0, 0)), 0)).2 ≤ 0) = true) => (Ia hI.1 (by omega) (show decide (sgnQ (l.getD i ((0, (0, 0)), 0)).2 ≤ 0) = true from h3) : (i : Int) = fidx (fun j => decide (sgnQ (l.getD j ((0, (0, 0)), 0)).2 ≤ 0)) 0 l.length)) (fun (h4 : ¬ (decide (sgnQ (l.getD i ((0, (0, 0)), 0)).2 ≤ 0) = true)) => I (show (i + 1) ≤ 8388608 by omega : Bnd (.nat .i64) (.n 8388608) (i + 1)) (And.intro (⟨K1 hI.1 (by omega) (show ¬ decide (sgnQ (l.getD i ((0, (0, 0)), 0)).2 ≤ 0) = true from h4), by omega⟩ : fidx (fun j => decide (sgnQ (l.getD j ((0, (0, 0)), 0)).2 ≤ 0)) (i + 1) (l.length - (i + 1)) = fidx (fun j => decide (sgnQ (l.getD j ((0, (0, 0)), 0)).2 ≤ 0)) 0 l.length ∧ (i + 1) ≤ l.length) (by omega : l.length - (i + 1) < l.length - i))))) (fun (h5 : ¬ (i < l.length)) => (I9 hI.1 (by omega) : (-1) = fidx (fun j => decide (sgnQ (l.getD j ((0, (0, 0)), 0)).2 ≤ 0)) 0 l.length))))⟩)
abbrev q0a : Ctr Tryz.prog := FI.c q0c
abbrev q08 : FI := ⟨138, [(.sl (.pr (.pr .rat (.pr .rat .rat)) .rat)), (.fn 139)], [(.s 8388608 (.p (.p (.n 1073741824) (.p (.n 1073741824) (.n 1073741824))) (.n 1073741824))), .u], fun _ => [], fun b z => (fun (l : List ((Rat × Rat × Rat) × Rat)) (u : Unit) => .c (.one (.dt .bool .u (decide (0 ≤ fidx (fun j => decide (sgnQ (l.getD j ((0, (0, 0)), 0)).2 ≤ 0)) 0 l.length))))) z.1 z.2⟩
theorem q09 : q08.OK Tryz.prog := mkF hmix 9 Tryz.func138 rfl rfl (by decide) [(188, .c q0a)] (fun _ => rfl) (fun _ => rfl) (fun _ _ => rfl) (fun (l : List ((Rat × Rat × Rat) × Rat)) (u : Unit) b hx hp => q9 trivial rfl) (fun (l : List ((Rat × Rat × Rat) × Rat)) (u : Unit) hx hp => by
 exact ⟨.nil, kcast (by kernel_rfl) ((Eq.refl (decide (0 ≤ fidx (fun j => decide (sgnQ (l.getD j ((0, (0, 0)), 0)).2 ≤ 0)) 0 l.length))))⟩)
abbrev q07 : Ctr Tryz.prog := FI.c q09
abbrev TI : FI := ⟨185, [(.sl .rat), (.fn 168)], [(.s 1048576 (.n 68719476736)), .u], fun z => (fun (k : List Rat) (u : Unit) => [0 < k.length]) z.1 z.2, fun b z => (fun (k : List Rat) (u : Unit) => .c (.one (.dt .bool .u (srtN k k.length)))) z.1 z.2⟩
theorem TJ : TI.OK Tryz.prog := mkF hmix 25 Tryz.func185 rfl rfl (by decide) [(168, .c IM)] (fun _ => rfl) (fun _ => rfl) (fun _ _ => rfl) (fun (k : List Rat) (u : Unit) b hx hp => q9 trivial rfl) (fun (k : List Rat) (u : Unit) hx hp => by
 have hl0 : k.length ≤ 1048576 := hx.1.1
 have hp0 : 0 < k.length := hp _ (List.mem_cons_self)
 exact ⟨.h 1 2 (.i .sub) (.loop [.s 5 (.nat .i64) (.n 1048576)] (fun (i : Nat) => SrtI k i ∧ i < k.length) (fun (i : Nat) => i) (fun (i : Nat) => .cond (.h 4 7 (.i .sub) (.cond (.nil) (.h 3 1 (.i .sub) (.nil)))) (.nil))), kcast (by kernel_rfl) (I (by omega : 1 ≤ k.length) (I (⟨SrtI.start k, by omega⟩ : SrtI k (k.length - 1) ∧ (k.length - 1) < k.length) (fun (i : Nat) (hb1 : HB [.s 5 (.nat .i64) (.n 1048576)] i) (hI : SrtI k i ∧ i < k.length) => have hv6 := (show i ≤ 1048576 from hb1); have hI1 := hI.2; And.intro (fun (h2 : 0 < i) => I (by omega : i < k.length) (I (by omega : 1 ≤ i) (I (by omega : i - 1 < k.length) (And.intro (fun (h3 : cmpQ (k.getD i 0) (k.getD (i - 1) 0) < 0) => ((KD (by omega) h3 hI1).symm : false = srtN k k.length)) (fun (h4 : ¬ (cmpQ (k.getD i 0) (k.getD (i - 1) 0) < 0)) => I (by omega : 1 ≤ i) (And.intro (⟨hI.1.step h4, by omega⟩ : SrtI k (i - 1) ∧ (i - 1) < k.length) (by omega : (i - 1) < i))))))) (fun (h5 : ¬ (0 < i)) => ((hI.1.fin (by omega)).symm : true = srtN k k.length)))))⟩)
abbrev TH : Ctr Tryz.prog := FI.c TJ
abbrev Q4 : FI := ⟨187, [(.sl .rat), .rat], [(.s 1048576 (.n 68719476736)), (.n 68719476736)], fun _ => [], fun b z => (fun (k : List Rat) (t : Rat) => .c (.one (.dt (.nat .i64) (.n (b0 b).len) (qu k t k.length)))) z.1 z.2⟩
theorem Q5 : Q4.OK Tryz.prog := mkF hmix 21 Tryz.func187 rfl rfl (by decide) [(145, .c DC)] (fun _ => rfl) (fun _ => rfl) (fun _ _ => rfl) (fun (k : List Rat) (t : Rat) b hx hp => q9 (show qu k t k.length ≤ (b0 b).len from Nat.le_trans (w4 k t _) (Bnds.h2 hx).1.slm.1) rfl) (fun (k : List Rat) (t : Rat) hx hp => by
 have hl0 : k.length ≤ 1048576 := hx.1.1
 exact ⟨.loop [.s 10 (.nat .i64) (.n 1048576), .s 5 (.nat .i64) (.n 1048576)] (fun ((i, m) : Nat × Nat) => m = qu k t i ∧ i ≤ k.length) (fun ((i, m) : Nat × Nat) => k.length - i) (fun ((i, m) : Nat × Nat) => .nil), kcast (by kernel_rfl) (I (⟨rfl, Nat.zero_le _⟩ : 0 = qu k t 0 ∧ 0 ≤ k.length) (fun (i : Nat) (m : Nat) (hb1 : HB [.s 10 (.nat .i64) (.n 1048576), .s 5 (.nat .i64) (.n 1048576)] (i, m)) (hI : m = qu k t i ∧ i ≤ k.length) => have hv6 := (show i ≤ 1048576 from hb1.1); have hv7 := (show m ≤ 1048576 from hb1.2); have hIi := hI.2; have hIl := (show m ≤ i from hI.1 ▸ w4 k t i); And.intro (fun (h2 : i < k.length) => I (by omega : i < k.length) (And.intro (fun (h3 : decide ((k.getD i 0) = t) = true) => I (show (i + 1) ≤ 1048576 by omega : Bnd (.nat .i64) (.n 1048576) (i + 1)) (I (show (m + 1) ≤ 1048576 by omega : Bnd (.nat .i64) (.n 1048576) (m + 1)) (And.intro (⟨by rw [qu, if_pos (yd h3), hI.1], by omega⟩ : (m + 1) = qu k t (i + 1) ∧ (i + 1) ≤ k.length) (by omega : k.length - (i + 1) < k.length - i)))) (fun (h4 : ¬ (decide ((k.getD i 0) = t) = true)) => I (show (i + 1) ≤ 1048576 by omega : Bnd (.nat .i64) (.n 1048576) (i + 1)) (And.intro (⟨by rw [qu, if_neg (yd' h4), hI.1], by omega⟩ : m = qu k t (i + 1) ∧ (i + 1) ≤ k.length) (by omega : k.length - (i + 1) < k.length - i))))) (fun (h5 : ¬ (i < k.length)) => (by rw [hI.1, show i = k.length by omega] : m = qu k t k.length))))⟩)
abbrev Q3 : Ctr Tryz.prog := FI.c Q5
abbrev Q1 : FI := ⟨137, [(.sl .rat), (.int .i64)], [(.s 1048576 (.n 68719476736)), (.n 1099511627776)], fun _ => [], fun b z => (fun (k : List Rat) (d : Int) => .c (.one (.dt (.int .i64) (.n ((b0 b).len + (b1 b).nb + 1)) ((k.length : Int) - d - 1)))) z.1 z.2⟩
theorem Q2 : Q1.OK Tryz.prog := mkF hmix 10 Tryz.func137 rfl rfl (by decide) [] (fun _ => rfl) (fun _ => rfl) (fun _ _ => rfl) (fun (k : List Rat) (d : Int) b hx hp => q9 (show Int.natAbs ((k.length : Int) - d - 1) ≤ (b0 b).len + (b1 b).nb + 1 from by have h1 := (Bnds.h2 hx).1.slm.1; have h2 := (Bnds.h2 hx).2.int; omega) rfl) (fun (k : List Rat) (d : Int) hx hp => by
 have hl0 : k.length ≤ 1048576 := hx.1.1
 have hx1 : Int.natAbs d ≤ 1099511627776 := hx.2
 exact ⟨.nil, kcast (by kernel_rfl) ((by omega : (((k.length : Nat) : Int) - d) - 1 = ((k.length : Nat) : Int) - d - 1))⟩)
abbrev Q0 : Ctr Tryz.prog := FI.c Q2
abbrev PY : FO := ⟨182, [(.sl .rat)], [(.s 1048576 (.n 68719476736))], fun _ => [], fun k b z => (fun (l : List Rat) => .c (.one (.gs k (l.length) 3 ((b0 b).len)))) z, fun b z => (fun (l : List Rat) => .gro .rat ((b0 b).e) (l)) z⟩
theorem PZ : PY.OK Tryz.prog := mkO hmix 8 7 Tryz.func182 rfl rfl (by decide) [] (fun _ => rfl) (fun _ _ _ => rfl) (fun _ _ => rfl) (fun _ _ _ => ⟨rfl, rfl⟩) (fun (l : List Rat) k b hx hp => ⟨q9 (Bnds.h1 hx).sl.1 rfl, (Bnds.h1 hx).sl.2⟩) (fun (l : List Rat) hx hp => by
 have hl0 : l.length ≤ 1048576 := hx.1
 exact bodyO.g (.cond (.nil) (.h 3 0 (.mk (.gro .rat (.n 68719476736))) (.nil))) (kcast (by kernel_rfl) (And.intro (fun (h1 : l = []) => And.intro (h1.symm : ([] : List Rat) = l) ((by rw [h1]; rfl : 0 = l.length))) (I (rfl : 0 = ([] : List Rat).length) (And.intro (rfl : ([] : List Rat) ++ l = l) ((by omega : 0 + l.length = l.length)))))))
abbrev PX : CtrO Tryz.prog := FO.c PZ
abbrev Na : FO := ⟨204, [(.sl .rat)], [(.s 1048576 (.n 34359738368))], fun _ => [], fun k b z => (fun (q : List Rat) => .c (.one (.gs k (q.length) 3 ((b0 b).len)))) z, fun b z => (fun (q : List Rat) => .gro .rat ((b0 b).e) (q)) z⟩
theorem Nb : Na.OK Tryz.prog := mkO hmix 23 90004 Tryz.func204 rfl rfl (by decide) [(52, .c zZ)] (fun _ => rfl) (fun _ _ _ => rfl) (fun _ _ => rfl) (fun _ _ _ => ⟨rfl, rfl⟩) (fun (q : List Rat) k b hx hp => ⟨q9 (Bnds.h1 hx).sl.1 rfl, (Bnds.h1 hx).sl.2⟩) (fun (q : List Rat) hx hp => by
 have hl0 : q.length ≤ 1048576 := hx.1
 exact bodyO.g (.h 1 2 (.mk (.gro .rat (.n 68719476736))) (.loop [.s 11 (.nat .i64) (.n 1048576), .g 3 90004 .rat (.n 68719476736) 1048576] (fun ((i, o) : Nat × List Rat) => o = q.take i ∧ i ≤ q.length) (fun ((i, o) : Nat × List Rat) => q.length - i) (fun ((i, o) : Nat × List Rat) => .cond (.h 5 4 (.mk (.im .rat (.n 68719476736))) (.nil)) (.nil)))) (kcast (by kernel_rfl) (I (rfl : 0 = ([] : List Rat).length) (I (⟨rfl, Nat.zero_le _⟩ : ([] : List Rat) = q.take 0 ∧ 0 ≤ q.length) (fun (i : Nat) (o : List Rat) (hb1 : HB [.s 11 (.nat .i64) (.n 1048576), .g 3 90004 .rat (.n 68719476736) 1048576] (i, o)) (hI : o = q.take i ∧ i ≤ q.length) => have hv4 := (show i ≤ 1048576 from hb1.1); have hv5 := (show o.length ≤ 1048576 from hb1.2.1); have hIi := hI.2; have hol := (show o.length = i from by rw [hI.1, List.length_take]; omega); And.intro (fun (h2 : i < q.length) => I (by omega : i < q.length) (I (by omega : o.length = o.length) (I (show (i + 1) ≤ 1048576 by omega : Bnd (.nat .i64) (.n 1048576) (i + 1)) (I (by (try simp only [List.length_append, List.length_cons, List.length_nil]) <;> omega : o.length + [(q.getD i 0) + 0].length = (o ++ [(q.getD i 0) + 0]).length) (I (by (try simp only [List.length_append, List.length_cons, List.length_nil]) <;> omega : o.length + [(q.getD i 0) + 0].length ≤ 1048576) (And.intro (⟨by rw [hI.1, Rat.add_zero, vC (d := 0) (by omega)], by omega⟩ : (o ++ [(q.getD i 0) + 0]) = q.take (i + 1) ∧ (i + 1) ≤ q.length) (by omega : q.length - (i + 1) < q.length - i))))))) (fun (h3 : ¬ (i < q.length)) => And.intro (by rw [hI.1, List.take_of_length_le (by omega)] : o = q) ((by omega : o.length = q.length))))))))
abbrev N9 : CtrO Tryz.prog := FO.c Nb
abbrev eqR : Rat → Rat → Bool := fun x y => decide (x = y)
theorem Pp {t : Ty} {l : List t.den} {lo n : Nat} (h : lo + n ≤ l.length) : (clrL t l lo n).length = l.length := by
 unfold clrL; simp only [List.length_append, List.length_take, List.length_replicate, List.length_drop]; omega
def unqL (l : List Rat) : List Rat := dst l ++ List.replicate (l.length - (dst l).length) 0
theorem I4 (l : List Rat) : (dst l).length ≤ l.length := wq l _
theorem Rm (l : List Rat) : (unqL l).length = l.length := by
 have := I4 l
 unfold unqL; simp only [List.length_append, List.length_replicate]; omega
theorem Ox (l : List Rat) : (unqL l).take (dst l).length = dst l := by unfold unqL; simp
theorem GZ {l : List Rat} (h : dst l = l) : l = unqL l := by unfold unqL; rw [h]; simp
theorem YI {l : List Rat} {b : Bd} (h : ∀ u ∈ l, Bnd .rat b u) (hb : ∀ m, b = .n m → True) (h0 : Bnd .rat b 0) : ∀ u ∈ unqL l, Bnd .rat b u := fun u hu => by
 rcases List.mem_append.1 hu with hu | hu
 ·exact h u (BV (Nat.le_refl _) u hu)
 ·rw [List.eq_of_mem_replicate hu]; exact h0
theorem GF {l : List Rat} (h : l.length < 2) : dst l = l := by
 match l, h with
 | [], _ => rfl
 | [x], _ => rfl
theorem CmO.dst {l : List Rat} {i : Nat} (h : CmO 0 eqR l i) (hi : ¬ i < l.length) : Sx.dst l = l := by
 have := h.fin hi
 rwa [Eo] at this
theorem CmI.dst {l m : List Rat} {k i n : Nat} (h : CmI 0 eqR l m k i) (hi : i = l.length) (hn : n = l.length) : clrL .rat m k (n - k) = unqL l ∧ k = (Sx.dst l).length := by
 obtain ⟨h1, h2, h3⟩ := h.fin hi
 rw [Eo] at h1 h2
 refine ⟨?_, h2⟩
 unfold clrL unqL
 have hl := h.hl
 rw [h1, List.drop_of_length_le (by show m.length ≤ _; omega), List.append_nil, hn, ← h2]; rfl
def numN (ps : List Pole) : Nat → List Rat
 | 0 => []
 | n + 1 => numN ps n ++ [(ps.getD n d0).1.1, (ps.getD n d0).1.2.1, (ps.getD n d0).1.2.2, (ps.getD n d0).2]
theorem Cd (ps : List Pole) : ∀ n, (numN ps n).length = 4 * n
 | 0 => rfl
 | n + 1 => by simp only [numN, List.length_append, Cd ps n, List.length_cons, List.length_nil]; omega
def vp (c : qN) : List Rat := c.2.1 ++ numN c.2.2 c.2.2.length
theorem NI {ps : List Pole} {b : Bd} (h : ∀ p ∈ ps, Bnd (.pr tV3 .rat) b p) : ∀ n, n ≤ ps.length → ∀ v ∈ numN ps n, Bnd .rat (.n b.mx) v
 | 0, _, v, hv => by cases hv
 | n + 1, hn, v, hv => by
  rcases List.mem_append.1 hv with hv | hv
  ·exact NI h n (by omega) v hv
  ·have g := Bnd.pole (h _ (show ps.getD n d0 ∈ ps by rw [j1 (by omega)]; exact List.getElem_mem _))
   simp only [List.mem_cons, List.not_mem_nil, or_false] at hv
   rcases hv with rfl | rfl | rfl | rfl
   ·exact g.1.1
   ·exact g.1.2.1
   ·exact g.1.2.2
   ·exact g.2
theorem G9 {c : qN} {b : Bd} (h : Bnd qQ b c) : (vp c).length ≤ b.r.l.len + 4 * b.r.r.len ∧ ∀ v ∈ vp c, Bnd .rat (.n b.mx) v := by
 have h2 := h.pr.2.pr.1
 have h3 := h.pr.2.pr.2
 have l2 := h2.slm.1; have l3 := h3.sl.1
 have m1 := b.r_mx; have m2 := b.r.l_mx; have m3 := b.r.r_mx; have m4 := b.r.r.e_mx
 refine ⟨by unfold vp; rw [List.length_append, Cd]; omega, fun v hv => ?_⟩
 rcases List.mem_append.1 hv with hv | hv
 ·exact qg (h2.slm.2 v hv) (by omega)
 ·exact qg (NI (h3.slm') _ (Nat.le_refl _) v hv) (by omega)
abbrev TF : FO := ⟨132, [(.pr (.int .i64) (.pr (.sl .rat) (.sl (.pr (.pr .rat (.pr .rat .rat)) .rat))))], [(.p (.n 1048576) (.p (.s 1048576 (.n 1073741824)) (.s 1048576 (.p (.p (.n 1073741824) (.p (.n 1073741824) (.n 1073741824))) (.n 1073741824)))))], fun _ => [], fun k b z => (fun (c : Int × List Rat × List ((Rat × Rat × Rat) × Rat)) => .c (.one (.gs k ((vp c).length) 3 (((b0 b).r.l.len + 4 * (b0 b).r.r.len))))) z, fun b z => (fun (c : Int × List Rat × List ((Rat × Rat × Rat) × Rat)) => .gro .rat ((.n (b0 b).mx)) (vp c)) z⟩
theorem TG : TF.OK Tryz.prog := mkO hmix 32 90005 Tryz.func132 rfl rfl (by decide) [(182, .o PX)] (fun _ => rfl) (fun _ _ _ => rfl) (fun _ _ => rfl) (fun _ _ _ => ⟨rfl, rfl⟩) (fun (c : Int × List Rat × List ((Rat × Rat × Rat) × Rat)) k b hx hp => ⟨q9 (G9 (Bnds.h1 hx)).1 rfl, (G9 (Bnds.h1 hx)).2⟩) (fun (c : Int × List Rat × List ((Rat × Rat × Rat) × Rat)) hx hp => by
 have hkl : c.2.1.length ≤ 1048576 := hx.2.1.1
 have hpl : c.2.2.length ≤ 1048576 := hx.2.2.1
 exact bodyO.g (.loop [.s 12 (.nat .i64) (.n 1048576), .g 3 90005 .rat (.n 68719476736) 8388608] (fun ((i, o) : Nat × List Rat) => o = c.2.1 ++ numN c.2.2 i ∧ i ≤ c.2.2.length) (fun ((i, o) : Nat × List Rat) => c.2.2.length - i) (fun ((i, o) : Nat × List Rat) => .cond (.h 5 12 (.mk (.im .rat (.n 68719476736))) (.nil)) (.nil))) (kcast (by kernel_rfl) (I (by omega : c.2.1.length = c.2.1.length) (I (⟨by simp [numN], Nat.zero_le _⟩ : c.2.1 = c.2.1 ++ numN c.2.2 0 ∧ 0 ≤ c.2.2.length) (fun (i : Nat) (o : List Rat) (hb1 : HB [.s 12 (.nat .i64) (.n 1048576), .g 3 90005 .rat (.n 68719476736) 8388608] (i, o)) (hI : o = c.2.1 ++ numN c.2.2 i ∧ i ≤ c.2.2.length) => have hv4 := (show i ≤ 1048576 from hb1.1); have hv5 := (show o.length ≤ 8388608 from hb1.2.1); have hIi := hI.2; have hol := (show o.length = c.2.1.length + 4 * i from by rw [hI.1, List.length_append, Cd]); And.intro (fun (h2 : i < c.2.2.length) => I (by omega : i < c.2.2.length) (I (by omega : o.length = o.length) (I (show (i + 1) ≤ 1048576 by omega : Bnd (.nat .i64) (.n 1048576) (i + 1)) (I (by (try simp only [List.length_append, List.length_cons, List.length_nil]) <;> omega : o.length + [((c.2.2.getD i ((0, (0, 0)), 0)).1).1, (((c.2.2.getD i ((0, (0, 0)), 0)).1).2).1, (((c.2.2.getD i ((0, (0, 0)), 0)).1).2).2, (c.2.2.getD i ((0, (0, 0)), 0)).2].length = (o ++ [((c.2.2.getD i ((0, (0, 0)), 0)).1).1, (((c.2.2.getD i ((0, (0, 0)), 0)).1).2).1, (((c.2.2.getD i ((0, (0, 0)), 0)).1).2).2, (c.2.2.getD i ((0, (0, 0)), 0)).2]).length) (I (by (try simp only [List.length_append, List.length_cons, List.length_nil]) <;> omega : o.length + [((c.2.2.getD i ((0, (0, 0)), 0)).1).1, (((c.2.2.getD i ((0, (0, 0)), 0)).1).2).1, (((c.2.2.getD i ((0, (0, 0)), 0)).1).2).2, (c.2.2.getD i ((0, (0, 0)), 0)).2].length ≤ 8388608) (And.intro (⟨by rw [hI.1, List.append_assoc]; rfl, by omega⟩ : (o ++ [((c.2.2.getD i ((0, (0, 0)), 0)).1).1, (((c.2.2.getD i ((0, (0, 0)), 0)).1).2).1, (((c.2.2.getD i ((0, (0, 0)), 0)).1).2).2, (c.2.2.getD i ((0, (0, 0)), 0)).2]) = c.2.1 ++ numN c.2.2 (i + 1) ∧ (i + 1) ≤ c.2.2.length) (by omega : c.2.2.length - (i + 1) < c.2.2.length - i))))))) (fun (h3 : ¬ (i < c.2.2.length)) => And.intro (by rw [hI.1, show i = c.2.2.length by omega]; rfl : o = vp c) ((by rw [hol, show i = c.2.2.length by omega]; unfold vp; rw [List.length_append, Cd] : o.length = (vp c).length))))))))
abbrev TE : CtrO Tryz.prog := FO.c TG
abbrev Lk : FV := ⟨203, true, .rat, (.n 68719476736), 1048576, [(.fn 145)], [.u], fun l lo n cap z => [n = l.length], fun k b l lo n cap z => .c (.one (.gs k (dst l).length 3 1048576)), fun l lo n cap z => unqL l⟩
theorem Ll : Lk.OK Tryz.prog := mkSl hmix 66 Tryz.func203 rfl rfl (by decide) [(145, .c DC)] (fun _ => rfl) (fun _ _ _ _ _ => rfl) (fun _ _ _ _ _ _ _ => rfl) (fun _ _ _ _ _ _ => rfl) (fun (l : List Rat) (lo n cap : Nat) (u : Unit) k b hx hs hn (hm : n ≤ 1048576) hp => ⟨q9 (show (dst l).length ≤ 1048576 from by have := I4 l; have h0 := hp _ List.mem_cons_self; omega) rfl, YI hs (fun _ _ => trivial) (qG _)⟩) (fun (l : List Rat) (lo n cap : Nat) (u : Unit) hs hx hn (hm : n ≤ 1048576) hp => by
 have hp0 : n = l.length := hp _ (List.mem_cons_self)
 exact ⟨.cond (.nil) (.loop [.s 5 (.nat .i64) (.n 1048576), .bk 100000 .rat (.n 68719476736)] (fun ((f, m0) : Nat × List Rat) => m0 = l ∧ CmO 0 eqR m0 f) (fun ((f, m0) : Nat × List Rat) => n - f) (fun ((f, m0) : Nat × List Rat) => .cond (.h 6 7 (.i .sub) (.cond (.loop [.s 7 (.nat .i64) (.n 1048576), .s 5 (.nat .i64) (.n 1048576), .bk 100000 .rat (.n 68719476736)] (fun ((q, j, m) : Nat × Nat × List Rat) => CmI 0 eqR l m j (f + q) ∧ 1 ≤ q) (fun ((q, j, m) : Nat × Nat × List Rat) => n - f - q) (fun ((q, j, m) : Nat × Nat × List Rat) => .cond (.h 11 7 (.i .sub) (.nil)) (.nil))) (.nil))) (.nil))), kcast (by kernel_rfl) (And.intro (fun (h1 : n < 2) => And.intro (GZ (GF (by omega)) : l = unqL l) ((by rw [GF (by omega)]; exact hp0 : n = (dst l).length))) (fun (h2 : ¬ (n < 2)) => I (⟨rfl, CmO.start (by omega)⟩ : l = l ∧ CmO 0 eqR l 1) (fun (f : Nat) (m0 : List Rat) (hb3 : HB [.s 5 (.nat .i64) (.n 1048576), .bk 100000 .rat (.n 68719476736)] (f, m0)) (hI : m0 = l ∧ CmO 0 eqR m0 f) => have hv15 := (show f ≤ 1048576 from hb3.1); have hml := (show m0.length = n from by rw [hI.1]; exact hp0.symm); have hf1 := hI.2.h1; have hf2 := hI.2.hl; And.intro (fun (h4 : f < n) => I (by omega : f < n) (I (by omega : f < m0.length) (I (by omega : 1 ≤ f) (I (by omega : f - 1 < n) (I (by omega : f - 1 < m0.length) (And.intro (fun (h5 : decide ((m0.getD f 0) = (m0.getD (f - 1) 0)) = true) => I (by omega : f ≤ n) (I (by omega : n ≤ m0.length) (I (⟨by have h := CmI.start hI.2 (by omega) h5; have e := hI.1; subst e; exact h, Nat.le_refl 1⟩ : CmI 0 eqR l m0 f (f + 1) ∧ 1 ≤ 1) (fun (q : Nat) (j : Nat) (m : List Rat) (hb6 : HB [.s 7 (.nat .i64) (.n 1048576), .s 5 (.nat .i64) (.n 1048576), .bk 100000 .rat (.n 68719476736)] (q, j, m)) (hJ : CmI 0 eqR l m j (f + q) ∧ 1 ≤ q) => have hv11 := (show q ≤ 1048576 from hb6.1); have hv12 := (show j ≤ 1048576 from hb6.2.1); have hjl := hJ.1.hl; have hj1 := hJ.1.hk; have hj2 := hJ.1.hi; have hj3 := hJ.2; And.intro (fun (h7 : q < n - f) => I (by omega : q < n - f) (I (by omega : f + q < m.length) (I (by omega : 1 ≤ q) (I (by omega : q - 1 < n - f) (I (by omega : f + (q - 1) < m.length) (And.intro (fun (h8 : (!(decide ((m.getD (f + q) 0) = (m.getD (f + (q - 1)) 0)))) = true) => I (by omega : q < n - f) (I (by omega : f + q < m.length) (I (by omega : j < n) (I (by omega : j < m.length) (I (show (q + 1) ≤ 1048576 by omega : Bnd (.nat .i64) (.n 1048576) (q + 1)) (I (show (j + 1) ≤ 1048576 by omega : Bnd (.nat .i64) (.n 1048576) (j + 1)) (And.intro (⟨by rw [show f + (q + 1) = f + q + 1 by omega]; exact hJ.1.go (by omega) (by rw [show f + q - 1 = f + (q - 1) by omega]; exact mt of_decide_eq_true (nd h8)), by omega⟩ : CmI 0 eqR l (m.set j (m.getD (f + q) 0)) (j + 1) (f + (q + 1)) ∧ 1 ≤ (q + 1)) (by omega : n - f - (q + 1) < n - f - q)))))))) (fun (h9 : ¬ ((!(decide ((m.getD (f + q) 0) = (m.getD (f + (q - 1)) 0)))) = true)) => I (show (q + 1) ≤ 1048576 by omega : Bnd (.nat .i64) (.n 1048576) (q + 1)) (And.intro (⟨by rw [show f + (q + 1) = f + q + 1 by omega]; exact hJ.1.stay (by omega) (by rw [show f + q - 1 = f + (q - 1) by omega]; exact decide_eq_true (nd' h9)), by omega⟩ : CmI 0 eqR l m j (f + (q + 1)) ∧ 1 ≤ (q + 1)) (by omega : n - f - (q + 1) < n - f - q))))))))) (fun (h10 : ¬ (q < n - f)) => I (by omega : j ≤ n) (I (by omega : n ≤ m.length) (I (by omega : 0 < n - j) (I (by omega : j + (n - j) ≤ m.length) (I (by omega : j ≤ n) (I (by rw [Pp (t := .rat) (by omega)]; omega : n ≤ (clrL .rat m j (n - j)).length) (And.intro ((hJ.1.dst (by omega) (by omega)).1 : clrL .rat m j (n - j) = unqL l) (((hJ.1.dst (n := n) (by omega) (by omega)).2 : j = (dst l).length))))))))))))) (fun (h13 : ¬ (decide ((m0.getD f 0) = (m0.getD (f - 1) 0)) = true)) => I (show (f + 1) ≤ 1048576 by omega : Bnd (.nat .i64) (.n 1048576) (f + 1)) (And.intro (⟨hI.1, hI.2.step (by omega) h13⟩ : m0 = l ∧ CmO 0 eqR m0 (f + 1)) (by omega : n - (f + 1) < n - f))))))))) (fun (h14 : ¬ (f < n)) => And.intro (by have hd := hI.2.dst (by omega); rw [hI.1] at hd ⊢; exact GZ hd : m0 = unqL l) ((by have hd := hI.2.dst (by omega); rw [hI.1] at hd; rw [hd]; exact hp0 : n = (dst l).length))))))⟩)
abbrev Lj : CtrS Tryz.prog := FV.c Ll
theorem O8 {a b c : Rat} (h : a < b) (g : b < c) : a < c := by grind
theorem AC {l : List Rat} {x : Rat} {i : Nat} (h : i < l.length) : (l ++ [x]).getD i 0 = l.getD i 0 := by
 rw [List.getD_eq_getElem?_getD, List.getElem?_append_left h, ← List.getD_eq_getElem?_getD]
theorem GK {l : List Rat} {x : Rat} : (l ++ [x]).getD l.length 0 = x := by simp [List.getD_eq_getElem?_getD]
structure DsO (k m : List Rat) (n : Nat) : Prop where
 h0 : 0 < m.length
 hf : m.getD 0 0 = k.getD 0 0
 hl : m.getD (m.length - 1) 0 = k.getD (n - 1) 0
 hs : ∀ i j, i < j → j < m.length → m.getD i 0 < m.getD j 0
theorem dsO {k : List Rat} : ∀ {n : Nat}, 0 < n → srtN k n = true → DsO k (dstN k n) n
 | 0, h, _ => absurd h (by omega)
 | 1, _, _ => ⟨by simp [dstN], by simp [dstN], by simp [dstN], fun i j h1 h2 => by simp [dstN] at h2; omega⟩
 | n + 2, _, hs => by
  have hs0 : srtN k (n + 1) = true := by rw [srtN, Bool.and_eq_true] at hs; exact hs.1
  have ih := dsO (k := k) (n := n + 1) (by omega) hs0
  have hle := El.1 hs (n + 1) (by omega) (by omega)
  rw [show n + 1 - 1 = n by omega] at hle
  have hl := ih.hl
  rw [show n + 1 - 1 = n by omega] at hl
  rw [dstN]
  by_cases hc : n + 1 = 0 ∨ k.getD (n + 1) 0 ≠ k.getD (n + 1 - 1) 0
  ·rw [if_pos hc]
   have hne : k.getD (n + 1) 0 ≠ k.getD n 0 := hc.resolve_left (by omega)
   have hlt : k.getD n 0 < k.getD (n + 1) 0 := Rat.lt_of_le_of_ne (Rat.not_lt.1 (mt wO.2 hle)) (Ne.symm hne)
   have len : (dstN k (n + 1) ++ [k.getD (n + 1) 0]).length = (dstN k (n + 1)).length + 1 := by simp
   refine ⟨by rw [len]; omega, by rw [AC ih.h0]; exact ih.hf, by rw [len, Nat.add_sub_cancel, GK]; rfl, fun i j hij hj => ?_⟩
   rw [len] at hj
   rcases Nat.lt_or_ge j (dstN k (n + 1)).length with h | h
   ·rw [AC (by omega), AC h]; exact ih.hs i j hij h
   ·have e : j = (dstN k (n + 1)).length := by omega
    subst e
    rw [AC hij, GK]
    rcases Nat.eq_or_lt_of_le (show i ≤ (dstN k (n + 1)).length - 1 by omega) with e | e
    ·rw [e, hl]; exact hlt
    ·have := ih.hs i _ e (by omega)
     rw [hl] at this; exact O8 this hlt
  ·rw [if_neg hc]
   have heq : k.getD (n + 1) 0 = k.getD n 0 := Decidable.byContradiction fun h => hc (.inr h)
   exact ⟨ih.h0, ih.hf, by rw [hl]; show _ = k.getD (n + 1) 0; rw [heq], ih.hs⟩
theorem Td {k : List Rat} (h0 : 0 < k.length) (hs : srtN k k.length = true) : ∀ i, i < (dst k).length → (((dst k).getD i 0 = k.getD 0 0 ∨ (dst k).getD i 0 = k.getD (k.length - 1) 0) ↔ (i = 0 ∨ i + 1 = (dst k).length)) := by
 intro i hi
 have d := dsO h0 hs
 constructor
 ·rintro (h | h)
  ·left
   rcases Nat.eq_zero_or_pos i with e | e
   ·exact e
   ·have := d.hs 0 i e hi; rw [d.hf, ← h] at this; exact absurd this (Rat.lt_irrefl)
  ·right
   rcases Nat.eq_or_lt_of_le (show i ≤ (dst k).length - 1 by omega) with e | e
   ·have := d.h0; show i + 1 = _; omega
   ·have := d.hs i ((dstN k k.length).length - 1) e (by have : i < (dstN k k.length).length := hi; omega); rw [d.hl, ← h] at this; exact absurd this (Rat.lt_irrefl)
 ·rintro (h | h)
  ·left; rw [h]; exact d.hf
  ·right; rw [← d.hl]; congr 1; show i = (dst k).length - 1; omega
theorem Te {k : List Rat} (h0 : 0 < k.length) (hs : srtN k k.length = true) (hn : ¬ k.getD 0 0 = k.getD (k.length - 1) 0) : ¬ (dst k).length < 2 := fun h => by
 have d := dsO h0 hs
 have e : (dst k).length - 1 = 0 := by omega
 have hl := d.hl
 have : (dstN k k.length).length - 1 = 0 := e
 rw [this, d.hf] at hl; exact hn hl
theorem Zm {k : List Rat} {d : Int} (h : ¬ (d < 1 ∨ 6 < d)) (h2 : ¬ (k.length : Int) < 2 * d + 2) (h3 : ¬ 40 < (k.length : Int) - d - 1) (h4 : srtN k k.length = true) (h5 : k.getD 0 0 = k.getD (k.length - 1) 0) : 5 = chkK k d := by
 cases ho : okN k d (dst k).length with
 | false => exact zz h h2 h3 h4 ho
 | true =>
  refine S9 h h2 h3 h4 ho (Nat.lt_of_not_le fun hc => ?_)
  have dd := dsO (by omega) h4
  have := dd.hs 0 ((dst k).length - 1) (by omega) (by show _ < (dst k).length; omega)
  rw [dd.hf, show (dstN k k.length).getD ((dst k).length - 1) 0 = k.getD (k.length - 1) 0 from dd.hl, h5] at this
  exact absurd this (Rat.lt_irrefl)
abbrev Xc : FI := ⟨186, [(.sl .rat)], [(.s 1048576 (.n 34359738368))], fun _ => [], fun b z => (fun (k : List Rat) => .c (.one (.dt (.sl .rat) (.s ((b0 b).len) (.n ((b0 b).mx))) (dst k)))) z⟩
theorem Xd : Xc.OK Tryz.prog := mkF hmix 6 Tryz.func186 rfl rfl (by decide) [(203, .s Lj), (204, .o N9)] (fun _ => rfl) (fun _ => rfl) (fun _ _ => rfl) (fun (k : List Rat) b hx hp => q9 (Sd (Bnds.h1 hx)) rfl) (fun (k : List Rat) hx hp => by
 have hl0 : k.length ≤ 1048576 := hx.1
 exact ⟨.pre 999999 (.frz 4 false [2]) (.nil), kcast (by kernel_rfl) (I (by omega : k.length = k.length) (I (by rw [Rm]; exact I4 k : (dst k).length ≤ (unqL k).length) ((Ox k : (unqL k).take ((dst k).length) = dst k))))⟩)
abbrev Xb : Ctr Tryz.prog := FI.c Xd
abbrev Nh : FI := ⟨136, [(.sl .rat), (.int .i64)], [(.s 1048576 (.n 34359738368)), (.n 1099511627776)], fun _ => [], fun b z => (fun (k : List Rat) (d : Int) => .c (.one (.dt (.int .i64) (.n 5) (chkK k d)))) z.1 z.2⟩
theorem Ni : Nh.OK Tryz.prog := mkF hmix 89 Tryz.func136 rfl rfl (by decide) [(145, .c DC), (185, .c TH), (186, .c Xb), (187, .c Q3)] (fun _ => rfl) (fun _ => rfl) (fun _ _ => rfl) (fun (k : List Rat) (d : Int) b hx hp => q9 (HO k d) rfl) (fun (k : List Rat) (d : Int) hx hp => by
 have hl0 : k.length ≤ 1048576 := hx.1.1
 have hx1 : Int.natAbs d ≤ 1099511627776 := hx.2
 exact ⟨.cond (.nil) (.cond (.nil) (.cond (.nil) (.cond (.nil) (.cond (.nil) (.h 8 10 (.i .sub) (.cond (.nil) (.loop [.s 50 (.nat .i64) (.n 1048576)] (fun (i : Nat) => okN k d i = true ∧ i ≤ (dst k).length) (fun (i : Nat) => (dst k).length - i) (fun (i : Nat) => .cond (.cond (.nil) (.h 14 10 (.i .sub) (.nil))) (.nil))))))))), kcast (by kernel_rfl) (And.intro (fun (h1 : d < 1) => (Hg (by omega) : 1 = chkK k d)) (fun (h2 : ¬ (d < 1)) => And.intro (fun (h3 : 6 < d) => (Hg (by omega) : 1 = chkK k d)) (fun (h4 : ¬ (6 < d)) => And.intro (fun (h5 : ((k.length : Nat) : Int) < (2 * d) + 2) => (S6 (by omega) h5 : 5 = chkK k d)) (fun (h6 : ¬ (((k.length : Nat) : Int) < (2 * d) + 2)) => And.intro (fun (h7 : 40 < (((k.length : Nat) : Int) - d) - 1) => (S7 (by omega) (by omega) (by omega) : 2 = chkK k d)) (fun (h8 : ¬ (40 < (((k.length : Nat) : Int) - d) - 1)) => I (by omega : 0 < k.length) (And.intro (fun (h9 : (!(srtN k k.length)) = true) => (S8 (by omega) (by omega) (by omega) (by simpa using h9) : 5 = chkK k d)) (fun (h10 : ¬ ((!(srtN k k.length)) = true)) => I (by omega : 0 < k.length) (I (by omega : 1 ≤ k.length) (I (by omega : k.length - 1 < k.length) (And.intro (fun (h11 : decide ((k.getD 0 0) = (k.getD (k.length - 1) 0)) = true) => (Zm (by omega) (by omega) (by omega) (by simpa using h10) (yd h11) : 5 = chkK k d)) (fun (h12 : ¬ (decide ((k.getD 0 0) = (k.getD (k.length - 1) 0)) = true)) => have hk0 := (show 0 < k.length by omega); have hsrt := (show srtN k k.length = true by simpa using h10); have hend := Td hk0 hsrt; I (⟨rfl, Nat.zero_le _⟩ : okN k d 0 = true ∧ 0 ≤ (dst k).length) (fun (i : Nat) (hb13 : HB [.s 50 (.nat .i64) (.n 1048576)] i) (hJ : okN k d i = true ∧ i ≤ (dst k).length) => have hv32 := (show i ≤ 1048576 from hb13); have hJ1 := hJ.2; have hdl := (show (dst k).length ≤ k.length from wq k k.length); And.intro (fun (h14 : i < (dst k).length) => I (by omega : i < (dst k).length) (I (by omega : 0 < k.length) (And.intro (fun (h15 : decide (((dst k).getD i 0) = (k.getD 0 0)) = true) => And.intro (fun (h16 : ((qu k ((dst k).getD i 0) k.length : Nat) : Int) ≠ d + 1) => (zz (by omega) (by omega) (by omega) hsrt (z0 (i := i) (by have q := (hend i (by omega)).1 (.inl (yd h15)); unfold badM; omega) (by omega)) : 5 = chkK k d)) (fun (h17 : ¬ (((qu k ((dst k).getD i 0) k.length : Nat) : Int) ≠ d + 1)) => I (show (i + 1) ≤ 1048576 by omega : Bnd (.nat .i64) (.n 1048576) (i + 1)) (And.intro (⟨jR hJ.1 (by have q := (hend i (by omega)).1 (.inl (yd h15)); unfold badM; omega), by omega⟩ : okN k d (i + 1) = true ∧ (i + 1) ≤ (dst k).length) (by omega : (dst k).length - (i + 1) < (dst k).length - i)))) (fun (h18 : ¬ (decide (((dst k).getD i 0) = (k.getD 0 0)) = true)) => I (by omega : 1 ≤ k.length) (I (by omega : k.length - 1 < k.length) (And.intro (fun (h19 : decide (((dst k).getD i 0) = (k.getD (k.length - 1) 0)) = true) => And.intro (fun (h20 : ((qu k ((dst k).getD i 0) k.length : Nat) : Int) ≠ d + 1) => (zz (by omega) (by omega) (by omega) hsrt (z0 (i := i) (by have q := (hend i (by omega)).1 (.inr (yd h19)); unfold badM; omega) (by omega)) : 5 = chkK k d)) (fun (h21 : ¬ (((qu k ((dst k).getD i 0) k.length : Nat) : Int) ≠ d + 1)) => And.intro (fun (h22 : (!(decide (((dst k).getD i 0) = (k.getD (k.length - 1) 0)))) = true) => And.intro (fun (h23 : d < ((qu k ((dst k).getD i 0) k.length : Nat) : Int)) => (zz (by omega) (by omega) (by omega) hsrt (z0 (i := i) (absurd (yd h19) (nd h22)) (by omega)) : 5 = chkK k d)) (fun (h24 : ¬ (d < ((qu k ((dst k).getD i 0) k.length : Nat) : Int))) => I (show (i + 1) ≤ 1048576 by omega : Bnd (.nat .i64) (.n 1048576) (i + 1)) (And.intro (⟨jR hJ.1 (absurd (yd h19) (nd h22)), by omega⟩ : okN k d (i + 1) = true ∧ (i + 1) ≤ (dst k).length) (by omega : (dst k).length - (i + 1) < (dst k).length - i)))) (fun (h25 : ¬ ((!(decide (((dst k).getD i 0) = (k.getD (k.length - 1) 0)))) = true)) => I (show (i + 1) ≤ 1048576 by omega : Bnd (.nat .i64) (.n 1048576) (i + 1)) (And.intro (⟨jR hJ.1 (by have q := (hend i (by omega)).1 (.inr (yd h19)); unfold badM; omega), by omega⟩ : okN k d (i + 1) = true ∧ (i + 1) ≤ (dst k).length) (by omega : (dst k).length - (i + 1) < (dst k).length - i))))) (fun (h26 : ¬ (decide (((dst k).getD i 0) = (k.getD (k.length - 1) 0)) = true)) => And.intro (fun (h27 : (!(decide (((dst k).getD i 0) = (k.getD (k.length - 1) 0)))) = true) => And.intro (fun (h28 : d < ((qu k ((dst k).getD i 0) k.length : Nat) : Int)) => (zz (by omega) (by omega) (by omega) hsrt (z0 (i := i) (by have q := mt (hend i (by omega)).2 (not_or.2 ⟨(yd' h18), (yd' h26)⟩); unfold badM; omega) (by omega)) : 5 = chkK k d)) (fun (h29 : ¬ (d < ((qu k ((dst k).getD i 0) k.length : Nat) : Int))) => I (show (i + 1) ≤ 1048576 by omega : Bnd (.nat .i64) (.n 1048576) (i + 1)) (And.intro (⟨jR hJ.1 (by have q := mt (hend i (by omega)).2 (not_or.2 ⟨(yd' h18), (yd' h26)⟩); unfold badM; omega), by omega⟩ : okN k d (i + 1) = true ∧ (i + 1) ≤ (dst k).length) (by omega : (dst k).length - (i + 1) < (dst k).length - i)))) (fun (h30 : ¬ ((!(decide (((dst k).getD i 0) = (k.getD (k.length - 1) 0)))) = true)) => I (show (i + 1) ≤ 1048576 by omega : Bnd (.nat .i64) (.n 1048576) (i + 1)) (And.intro (⟨jR hJ.1 (absurd (nd' h30) (yd' h26)), by omega⟩ : okN k d (i + 1) = true ∧ (i + 1) ≤ (dst k).length) (by omega : (dst k).length - (i + 1) < (dst k).length - i)))))))))) (fun (h31 : ¬ (i < (dst k).length)) => (Sa (by omega) (by omega) (by omega) hsrt (by rw [show (dst k).length = i by omega]; exact hJ.1) (Te hk0 hsrt (yd' h12)) : 0 = chkK k d))))))))))))))⟩)
abbrev Ng : Ctr Tryz.prog := FI.c Ni
theorem Jr {l : List Pole} : ∀ {n : Nat}, wgtN l n = true ↔ ∀ j, j < n → ¬ sgnQ (l.getD j d0).2 ≤ 0
 | 0 => ⟨fun _ j h => by omega, fun _ => rfl⟩
 | n + 1 => by
  rw [wgtN, Bool.and_eq_true, Jr, decide_eq_true_eq]
  constructor
  ·rintro ⟨h1, h2⟩ j hj
   rcases Nat.lt_or_ge j n with h | h
   ·exact h1 j h
   ·have : j = n := by omega
    subst this; show ¬ sgnQ (l.getD j ((0, 0, 0), 0)).2 ≤ 0; omega
  ·intro h; exact ⟨fun j hj => h j (by omega), by have : ¬ sgnQ (l.getD n ((0, 0, 0), 0)).2 ≤ 0 := h n (by omega); omega⟩
abbrev pW (l : List Pole) : Nat → Bool := fun j => decide (sgnQ (l.getD j ((0, 0, 0), 0)).2 ≤ 0)
theorem q0E {l : List Pole} (h : 0 ≤ fidx (pW l) 0 l.length) : wgtN l l.length = false := by
 obtain ⟨j, _, h2, h3⟩ := Dm.1 h
 exact KN (of_decide_eq_true h3) (by omega)
theorem q0F {l : List Pole} (h : ¬ 0 ≤ fidx (pW l) 0 l.length) : wgtN l l.length = true :=
 Jr.2 fun j hj hs => h (Dm.2 ⟨j, by omega, by omega, decide_eq_true hs⟩)
theorem NK {c : qN} {b : Bd} (h : Bnd qQ b c) (hb : b.mx ≤ 2047) : ¬ 0 ≤ fidx (fun j => decide (2048 < j5 ((vp c).getD j 0))) 0 (vp c).length := fun hf => by
 obtain ⟨j, _, h2, h3⟩ := Dm.1 hf
 have h3 := of_decide_eq_true h3
 have := DZ (v8 (G9 h).2 j)
 omega
def zN (s : Dice) (f : Bool) : Pole := (if f = true then ((vw s).1, (vw s).2.1, 0) else vw s, ((1 + Int.tmod (q8 (jY s) 3) 3 : Int) : Rat))
def A5 (s : Dice) : Dice := q6 (jY s)
theorem Kn (s : Dice) (f : Bool) : Bnd j3 (qU 5) (zN s f) := by
 refine ⟨?_, ?_⟩
 ·have := Ee s
  show Bnd tV3 (bV3 5) (if f = true then _ else _)
  split
  ·exact ⟨this.1, this.2.1, qG _⟩
  ·exact this
 ·have h : (1 + Int.tmod (q8 (jY s) 3) 3).natAbs ≤ 4 := by
   have := Int.natAbs_tmod (q8 (jY s) 3) 3
   have : (Int.tmod (q8 (jY s) 3) 3).natAbs = (q8 (jY s) 3).natAbs % 3 := this
   omega
  exact qg (z5 h) (by decide)
theorem Km {s : Dice} {b : Bd} (h : Bnd jp b s) : Bnd jp (.p b.l (.n (max b.r.nb b.l.len))) (A5 s) := jH (IG h)
def qZ (s : Rat × Rat) (n : Int) : Rat := s.1 + jt n * (s.2 - s.1)
theorem H4 {s : Rat × Rat} {b : Bd} (h : Bnd (.pr .rat .rat) b s) (n : Int) : Bnd .rat (.n (3 * b.mx + 8)) (qZ s n) := by
 have h1 := vi h.pr.1 (Nat.le_trans (Bd.nb_mx _) b.l_mx)
 have h2 := vi h.pr.2 (Nat.le_trans (Bd.nb_mx _) b.r_mx)
 exact qg (zx h1 (j6 (Gd n) (wJ h2 h1))) (by omega)
theorem JW {c : qN} {b : Bd} (h : Bnd qQ b c) (i : Nat) : Bnd .rat (.n b.mx) (c.2.1.getD i 0) := by
 have m1 := b.r_mx; have m2 := b.r.l_mx
 exact qg (Bj h.pr.2.pr.1 i) (by omega)
abbrev N7 : FI := ⟨85, [(.pr (.int .i64) (.pr (.sl .rat) (.sl (.pr (.pr .rat (.pr .rat .rat)) .rat))))], [(.p (.n 6) (.p (.s 1048576 (.n 2047)) (.s 1048576 (.p (.p (.n 2047) (.p (.n 2047) (.n 2047))) (.n 2047)))))], fun _ => [], fun b z => (fun (c : Int × List Rat × List ((Rat × Rat × Rat) × Rat)) => .c (.one (.dt (.int .i64) (.n 8) (chkC c)))) z⟩
theorem N8 : N7.OK Tryz.prog := mkF hmix 34 Tryz.func85 rfl rfl (by decide) [(132, .o TE), (133, .c q01), (136, .c Ng), (137, .c Q0), (138, .c q07)] (fun _ => rfl) (fun _ => rfl) (fun _ _ => rfl) (fun (c : Int × List Rat × List ((Rat × Rat × Rat) × Rat)) b hx hp => q9 (HN c) rfl) (fun (c : Int × List Rat × List ((Rat × Rat × Rat) × Rat)) hx hp => by
 exact ⟨.pre 2 (.frz 6 true [3]) (.cond (.nil) (.cond (.nil) (.cond (.nil) (.h 11 1 (.c ZV) (.cond (.dead) (.nil)))))), kcast (by kernel_rfl) (I (by omega : (vp c).length = (vp c).length) (And.intro (fun (h1 : chkK c.2.1 c.1 ≠ 0) => (S2 h1 : chkK c.2.1 c.1 = chkC c)) (fun (h2 : ¬ (chkK c.2.1 c.1 ≠ 0)) => And.intro (fun (h3 : ((c.2.2.length : Nat) : Int) ≠ ((c.2.1.length : Nat) : Int) - c.1 - 1) => (S3 h2 h3 : 1 = chkC c)) (fun (h4 : ¬ (((c.2.2.length : Nat) : Int) ≠ ((c.2.1.length : Nat) : Int) - c.1 - 1)) => And.intro (fun (h5 : decide (0 ≤ fidx (fun j => decide (sgnQ (c.2.2.getD j ((0, (0, 0)), 0)).2 ≤ 0)) 0 c.2.2.length) = true) => (S4 h2 h4 (q0E (yd h5)) : 6 = chkC c)) (fun (h6 : ¬ (decide (0 ≤ fidx (fun j => decide (sgnQ (c.2.2.getD j ((0, (0, 0)), 0)).2 ≤ 0)) 0 c.2.2.length) = true)) => And.intro (fun (h7 : decide (0 ≤ fidx (fun j => decide (2048 < j5 ((vp c).getD j 0))) 0 (vp c).length) = true) => (NK hx (by decide) (yd h7) : False)) (fun (h8 : ¬ (decide (0 ≤ fidx (fun j => decide (2048 < j5 ((vp c).getD j 0))) 0 (vp c).length) = true)) => (S5 h2 h4 (q0F (yd' h6)) : 0 = chkC c)))))))⟩)
abbrev N6 : Ctr Tryz.prog := FI.c N8
abbrev Nd : FI := ⟨41, [(.pr (.int .i64) (.pr (.sl .rat) (.sl (.pr (.pr .rat (.pr .rat .rat)) .rat))))], [(.p (.n 8) (.p (.s 1048576 (.n 16384)) (.s 1048576 (.p (.p (.n 262144) (.p (.n 262144) (.n 262144))) (.n 262144)))))], fun z => (fun (c : Int × List Rat × List ((Rat × Rat × Rat) × Rat)) => [0 < c.2.1.length]) z, fun b z => (fun (c : Int × List Rat × List ((Rat × Rat × Rat) × Rat)) => .c (.agg [.dt (.pr .rat .rat) (.p (.n (b0 b).mx) (.n (b0 b).mx)) (c.2.1.getD 0 0, c.2.1.getD (c.2.1.length - 1) 0)])) z⟩
theorem Nf : Nd.OK Tryz.prog := mkF hmix 16 Tryz.func41 rfl rfl (by decide) [] (fun _ => rfl) (fun _ => rfl) (fun _ _ => rfl) (fun (c : Int × List Rat × List ((Rat × Rat × Rat) × Rat)) b hx hp => qT ⟨JW (Bnds.h1 hx) 0, JW (Bnds.h1 hx) _⟩) (fun (c : Int × List Rat × List ((Rat × Rat × Rat) × Rat)) hx hp => by
 have hp0 : 0 < c.2.1.length := hp _ (List.mem_cons_self)
 exact ⟨.h 1 9 (.i .sub) (.nil), kcast (by kernel_rfl) (I (by omega : 0 < c.2.1.length) (I (by omega : 1 ≤ c.2.1.length) (I (by omega : c.2.1.length - 1 < c.2.1.length) ((Eq.refl (c.2.1.getD 0 0, c.2.1.getD (c.2.1.length - 1) 0))))))⟩)
abbrev Nc : Ctr Tryz.prog := FI.c Nf
abbrev Nk : FI := ⟨40, [(.pr .rat .rat), (.int .i64)], [(.p (.n 16384) (.n 16384)), (.n 9223372036854775808)], fun _ => [], fun b z => (fun (s : Rat × Rat) (n : Int) => .c (.agg [.dt .rat (.n (3 * (b0 b).mx + 8)) (qZ s n)])) z.1 z.2⟩
theorem Nl : Nk.OK Tryz.prog := mkF hmix 16 Tryz.func40 rfl rfl (by decide) [(21, .c JY), (32, .c FH), (34, .c P1), (62, .c BH)] (fun _ => rfl) (fun _ => rfl) (fun _ _ => rfl) (fun (s : Rat × Rat) (n : Int) b hx hp => qW (H4 (Bnds.h2 hx).1 n)) (fun (s : Rat × Rat) (n : Int) hx hp => by
 exact ⟨.nil, kcast (by kernel_rfl) ((rfl : s.1 + ((jt n) * (s.2 - s.1)) = qZ s n))⟩)
abbrev Nj : Ctr Tryz.prog := FI.c Nl
abbrev T7 : FB := ⟨84, (.pr (.sl (.int .i64)) (.nat .i64)), (.p (.s 1048576 (.n 9223372036854775808)) (.n 1048576)), [.bool], [.u], fun s z => [], fun tb b s z => (fun (f : Bool) => .c (.agg [.dt j3 (qU 5) (zN s f)])) z, fun s z => A5 s, fun tb b => .p tb.l (.n (max tb.r.nb tb.l.len))⟩
theorem T8 : T7.OK Tryz.prog := mkB' hmix 18 Tryz.func84 rfl rfl (by decide) [(11, .b I0), (18, .b Bf), (31, .c wY)] (fun _ => rfl) (fun _ _ => rfl) (fun _ _ _ _ => rfl) (fun (s : List Int × Nat) (f : Bool) tb b hs hx hp => ⟨qT (Kn s f), Km hs⟩) (fun (s : List Int × Nat) (f : Bool) hs hx hp => by
 exact ⟨.nil, kcast (by kernel_rfl) (And.intro (fun (h1 : f = true) => I (by omega : (0 : Int) < 3) (I (by omega : (3 : Int) ≠ 0) (And.intro (rfl : q6 (jY s) = A5 s) ((by unfold zN; rw [if_pos (show f = true by assumption)] : (((vw s).1, ((vw s).2).1, 0), ((1 + (Int.tmod (q8 (jY s) 3) 3) : Int) : Rat)) = zN s f))))) (fun (h2 : ¬ (f = true)) => I (by omega : (0 : Int) < 3) (I (by omega : (3 : Int) ≠ 0) (And.intro (rfl : q6 (jY s) = A5 s) ((by unfold zN; rw [if_neg (show ¬ f = true by assumption)] : (vw s, ((1 + (Int.tmod (q8 (jY s) 3) 3) : Int) : Rat)) = zN s f))))))⟩)
abbrev T6 : CtrB Tryz.prog := FB.c T8
section
theorem ER {x y : Rat} (h : y ≠ 0) : x / y * y = x := Rat.div_mul_cancel h
def HZ (m : Nat) (t : Rat) : Prop := ∃ z : Int, t * 2 = (z : Rat) ∧ z.natAbs ≤ m
theorem HZ.le {m k : Nat} {t : Rat} (h : HZ m t) (e : m ≤ k) : HZ k t := by obtain ⟨z, a, b⟩ := h; exact ⟨z, a, by omega⟩
theorem HZ.bnd {t : Rat} (h : HZ 40 t) : Bnd .rat (.n 6) t := by
 obtain ⟨z, a, b⟩ := h
 have e2 : ((2 : Int) : Rat) = 2 := rfl
 have e : t = (z : Rat) / ((2 : Int) : Rat) := by
  have := ER (x := (z : Rat)) (y := ((2 : Int) : Rat)) (by rw [e2]; decide)
  rw [e2] at this ⊢
  generalize (z : Rat) / 2 = u at *; grind
 rw [e]
 exact qg (wu (n := z) (d := 2) (b := 40) (c := 2) b (by decide)) (by decide)
def addT (t : Rat) (s : Dice) : Rat := t + ((1 + q8 s 3 : Int) : Rat) / ((1 + q8 (q6 s) 2 : Int) : Rat)
theorem HZ.addT {m : Nat} {t : Rat} (h : HZ m t) (s : Dice) : HZ (m + 6) (addT t s) := by
 obtain ⟨z, a, b⟩ := h
 have h1 := vv s (m := 3) (by omega)
 have h2 := vv (q6 s) (m := 2) (by omega)
 unfold Sx.addT
 have c : 1 + q8 (q6 s) 2 = 1 ∨ 1 + q8 (q6 s) 2 = 2 := by omega
 generalize q8 s 3 = u at *; generalize 1 + q8 (q6 s) 2 = e at *
 have e1 : ((1 : Int) : Rat) = 1 := rfl
 have e2 : ((2 : Int) : Rat) = 2 := rfl
 rcases c with rfl | rfl
 ·refine ⟨z + 2 * (1 + u), ?_, by omega⟩
  have := ER (x := ((1 + u : Int) : Rat)) (y := ((1 : Int) : Rat)) (by rw [e1]; decide)
  rw [e1] at this ⊢
  generalize ((1 + u : Int) : Rat) / 1 = q at *
  rw [Rat.intCast_add, Rat.intCast_mul, ← a, e2]; grind
 ·refine ⟨z + (1 + u), ?_, by omega⟩
  have := ER (x := ((1 + u : Int) : Rat)) (y := ((2 : Int) : Rat)) (by rw [e2]; decide)
  rw [e2] at this ⊢
  generalize ((1 + u : Int) : Rat) / 2 = q at *
  rw [Rat.intCast_add, ← a]; grind
theorem HZ.one {m : Nat} {t : Rat} (h : HZ m t) : HZ (m + 2) (t + ((1 : Int) : Rat)) := by
 obtain ⟨z, a, b⟩ := h
 refine ⟨z + 2, ?_, by omega⟩
 have e1 : ((1 : Int) : Rat) = 1 := rfl
 have e2 : ((2 : Int) : Rat) = 2 := rfl
 rw [Rat.intCast_add, ← a, e1, e2]; grind
abbrev KnT := List Rat × Rat × Dice
def knS (d : Int) (x : KnT) : KnT :=
 if (x.1.length : Int) = d + 1 then (x.1 ++ [addT x.2.1 x.2.2], addT x.2.1 x.2.2, q6 (q6 x.2.2))
 else if 0 < q8 x.2.2 3 ∨ x.2.1 = x.1.getD ((x.1.length : Int) - d).toNat 0 then (x.1 ++ [addT x.2.1 (q6 x.2.2)], addT x.2.1 (q6 x.2.2), q6 (q6 (q6 x.2.2)))
 else (x.1 ++ [x.2.1], x.2.1, q6 x.2.2)
def knN (d : Int) : Nat → KnT → KnT
 | 0, x => x
 | n + 1, x => knN d n (knS d x)
def kn0 (d : Int) (s : Dice) : KnT := (List.replicate (d + 1).toNat ((q8 s 4 - 2 : Int) : Rat), ((q8 s 4 - 2 : Int) : Rat), q6 (q6 s))
def knR (d inner : Int) (s : Dice) : KnT := knN d (q8 (q6 s) (inner + 1)).toNat (kn0 d s)
def jl (d inner : Int) (s : Dice) : List Rat := (knR d inner s).1 ++ List.replicate (d + 1).toNat ((knR d inner s).2.1 + ((1 : Int) : Rat))
def vh (d inner : Int) (s : Dice) : Dice := (knR d inner s).2.2
structure KnI (m n : Nat) (x : KnT) : Prop where
 l : x.1.length ≤ n
 t : HZ m x.2.1
 k : ∀ y ∈ x.1, HZ m y
theorem KnI.step {m n : Nat} {x : KnT} (h : KnI m n x) (d : Int) : KnI (m + 6) (n + 1) (knS d x) := by
 obtain ⟨hl, ht, hk⟩ := h
 have app : ∀ t : Rat, HZ (m + 6) t → ∀ u, KnI (m + 6) (n + 1) (x.1 ++ [t], t, u) := fun t q u => by
  refine ⟨by simp only [List.length_append, List.length_cons, List.length_nil]; omega, q, fun y hy => ?_⟩
  rcases List.mem_append.1 hy with hy | hy
  ·exact (hk y hy).le (by omega)
  ·rw [List.mem_singleton.1 hy]; exact q
 unfold knS
 split
 ·exact app _ (ht.addT _) _
 ·split
  ·exact app _ (ht.addT _) _
  ·exact app _ (ht.le (by omega)) _
theorem KnI.all {d : Int} : ∀ {k m n : Nat} {x : KnT}, KnI m n x → KnI (m + 6 * k) (n + k) (knN d k x)
 | 0, m, n, x, h => h
 | k + 1, m, n, x, h => by
  have := (h.step d).all (d := d) (k := k)
  rw [show m + 6 * (k + 1) = m + 6 + 6 * k by omega, show n + (k + 1) = n + 1 + k by omega]; exact this
theorem KnI.le {m n m' n' : Nat} {x : KnT} (h : KnI m n x) (a : m ≤ m') (b : n ≤ n') : KnI m' n' x := ⟨Nat.le_trans h.l b, h.t.le a, fun y hy => (h.k y hy).le a⟩
section
variable {d : Int} {k : List Rat} {t : Rat} {u : Dice}
theorem q0e (h : (k.length : Int) = d + 1) : knS d (k, t, u) = (k ++ [addT t u], addT t u, q6 (q6 u)) := if_pos h
theorem Sl (h : ¬ (k.length : Int) = d + 1) (c : 0 < q8 u 3 ∨ t = k.getD ((k.length : Int) - d).toNat 0) : knS d (k, t, u) = (k ++ [addT t (q6 u)], addT t (q6 u), q6 (q6 (q6 u))) := (if_neg h).trans (if_pos c)
theorem q0f (h : ¬ (k.length : Int) = d + 1) (c : ¬ 0 < q8 u 3) (c2 : ¬ t = k.getD ((k.length : Int) - d).toNat 0) : knS d (k, t, u) = (k ++ [t], t, q6 u) := (if_neg h).trans (if_neg (not_or.2 ⟨c, c2⟩))
end
theorem TQ (d : Int) (x : KnT) : (knS d x).1.length = x.1.length + 1 := by
 unfold knS; (repeat' split) <;> simp
theorem Ds {d m : Int} {x y Z : KnT} (hm : 0 < m) (hJ : knN d m.toNat x = Z ∧ 0 ≤ m ∧ m ≤ 4 ∧ KnI (4 + 6 * (4 - m).toNat) (10 - m.toNat) x ∧ d + 1 ≤ (x.1.length : Int)) (e : knS d x = y) :
    knN d (m - 1).toNat y = Z ∧ 0 ≤ m - 1 ∧ m - 1 ≤ 4 ∧ KnI (4 + 6 * (4 - (m - 1)).toNat) (10 - (m - 1).toNat) y ∧ d + 1 ≤ (y.1.length : Int) := by
  obtain ⟨h1, h2, h3, h4, h5⟩ := hJ
  rw [show m.toNat = (m - 1).toNat + 1 by omega, knN, e] at h1
  have hl := TQ d x
  rw [e] at hl
  exact ⟨h1, by omega, by omega, e ▸ (h4.step d).le (by omega) (by omega), by omega⟩
theorem Sj (d : Int) (s : Dice) : KnI 4 (d + 1).toNat (kn0 d s) := by
 have h1 := vv s (m := 4) (by omega)
 have hz : HZ 4 ((q8 s 4 - 2 : Int) : Rat) := by
  refine ⟨2 * (q8 s 4 - 2), ?_, by omega⟩
  rw [Rat.intCast_mul]; have e2 : ((2 : Int) : Rat) = 2 := rfl
  rw [e2]; grind
 refine ⟨by simp [kn0], hz, fun y hy => ?_⟩
 rw [List.eq_of_mem_replicate hy]; exact hz
theorem q0d {d inner : Int} (s : Dice) (h0 : 0 ≤ inner) (h4 : inner ≤ 4) : KnI 28 ((d + 1).toNat + 4) (knR d inner s) := by
 have h := vv (q6 s) (m := inner + 1) (by omega)
 have := (Sj d s).all (d := d) (k := (q8 (q6 s) (inner + 1)).toNat)
 refine ⟨Nat.le_trans this.l (by omega), this.t.le (by omega), fun y hy => (this.k y hy).le (by omega)⟩
theorem E6 {d inner : Int} (s : Dice) (hd : d ≤ 5) (h0 : 0 ≤ inner) (h4 : inner ≤ 4) : Bnd (.sl .rat) (.s 16 (.n 6)) (jl d inner s) := by
 have h := q0d (d := d) s h0 h4
 unfold jl
 refine ⟨by have := h.l; simp only [List.length_append, List.length_replicate]; omega, fun y hy => ?_⟩
 rcases List.mem_append.1 hy with hy | hy
 ·exact ((h.k y hy).le (by decide)).bnd
 ·rw [List.eq_of_mem_replicate hy]
  obtain ⟨z, a, b⟩ := h.t
  refine HZ.bnd ⟨z + 2, ?_, by omega⟩
  have e1 : ((1 : Int) : Rat) = 1 := rfl
  have e2 : ((2 : Int) : Rat) = 2 := rfl
  rw [Rat.intCast_add, ← a, e1, e2]; grind
theorem q0g {d : Int} {x : KnT} {b : Bd} (h : Bnd jp (.p b.l (.n (max b.r.nb b.l.len))) x.2.2) : Bnd jp (.p b.l (.n (max b.r.nb b.l.len))) (knS d x).2.2 := by
 unfold knS
 split
 ·exact jH (b := b) (jH (b := b) h)
 ·split
  ·exact jH (b := b) (jH (b := b) (jH (b := b) h))
  ·exact jH (b := b) h
theorem Sk {d : Int} {b : Bd} : ∀ {n : Nat} {x : KnT}, Bnd jp (.p b.l (.n (max b.r.nb b.l.len))) x.2.2 → Bnd jp (.p b.l (.n (max b.r.nb b.l.len))) (knN d n x).2.2
 | 0, x, h => h
 | n + 1, x, h => Sk (x := knS d x) (q0g (d := d) h)
theorem Ih {d inner : Int} {s : Dice} {b : Bd} (h : Bnd jp b s) : Bnd jp (.p b.l (.n (max b.r.nb b.l.len))) (vh d inner s) :=
 Sk (x := kn0 d s) (jH (b := b) (Ac (b := b) h))
theorem My {x : Dice} {b : Bd} (h : Bnd jp (.p (Bd.p b.l (.n (max b.r.nb b.l.len))).l (.n (max (Bd.p b.l (.n (max b.r.nb b.l.len))).r.nb (Bd.p b.l (.n (max b.r.nb b.l.len))).l.len))) x) : Bnd jp (.p b.l (.n (max b.r.nb b.l.len))) x := by
 simpa [Bd.l, Bd.r, Bd.nb, Nat.max_assoc] using h
theorem QF {s : Dice} {b : Bd} (h : Bnd jp (.p b.l (.n (max b.r.nb b.l.len))) s) : Bnd jp (.p b.l (.n (max b.r.nb b.l.len))) (A5 s) := My (Km h)
theorem Q9 {d inner : Int} {s : Dice} {k : List Rat} {i : Nat} (hI : k = List.replicate i ((q8 s 4 - 2 : Int) : Rat) ∧ (i : Int) ≤ d + 1) (hi : ¬ (i : Int) ≤ d) (hd : d ≤ 5) (h0 : 0 ≤ inner) (h4 : inner ≤ 4) :
    knN d (q8 (q6 s) (inner + 1)).toNat (k, ((q8 s 4 - 2 : Int) : Rat), q6 (q6 s)) = knR d inner s ∧ 0 ≤ q8 (q6 s) (inner + 1) ∧ q8 (q6 s) (inner + 1) ≤ 4 ∧ KnI (4 + 6 * (4 - q8 (q6 s) (inner + 1)).toNat) (10 - (q8 (q6 s) (inner + 1)).toNat) (k, ((q8 s 4 - 2 : Int) : Rat), q6 (q6 s)) ∧ d + 1 ≤ (k.length : Int) := by
  have h := vv (q6 s) (m := inner + 1) (by omega)
  have e : (k, ((q8 s 4 - 2 : Int) : Rat), q6 (q6 s)) = kn0 d s := by unfold kn0; rw [hI.1, show (d + 1).toNat = i by omega]
  have hl : k.length = i := by rw [hI.1, List.length_replicate]
  rw [e]
  exact ⟨rfl, h.1, by omega, (Sj d s).le (by omega) (by omega), by omega⟩
theorem Xl {d inner m : Int} {s u : Dice} {k : List Rat} {t : Rat} {P : Prop} (hJ : knN d m.toNat (k, t, u) = knR d inner s ∧ P) (hm : ¬ 0 < m) : (k, t, u) = knR d inner s := by
 have := hJ.1; rw [show m.toNat = 0 by omega] at this; exact this
theorem No {d inner m : Int} {s u : Dice} {k k3 : List Rat} {t : Rat} {j : Nat} {P : Prop} (hJ : knN d m.toNat (k, t, u) = knR d inner s ∧ P) (hm : ¬ 0 < m) (hL : k3 = k ++ List.replicate j (t + ((1 : Int) : Rat)) ∧ (j : Int) ≤ d + 1) (hj : ¬ (j : Int) ≤ d) :
    u = vh d inner s ∧ k3 = jl d inner s := by
  have e := Xl hJ hm
  unfold vh jl
  rw [← e, hL.1, show (d + 1).toNat = j by omega]
  exact ⟨rfl, rfl⟩
def pN (f : Bool) (s : Dice) : Nat → List Pole × Dice
 | 0 => ([], s)
 | n + 1 => ((pN f s n).1 ++ [zN (pN f s n).2 f], A5 (pN f s n).2)
theorem IE (f : Bool) (s : Dice) : ∀ n, (pN f s n).1.length = n
 | 0 => rfl
 | n + 1 => by simp only [pN, List.length_append, IE f s n, List.length_cons, List.length_nil]
theorem pN_b (f : Bool) (s : Dice) : ∀ n, ∀ x ∈ (pN f s n).1, Bnd j3 (qU 5) x
 | 0, x, h => by cases h
 | n + 1, x, h => by
  simp only [pN] at h
  rcases List.mem_append.1 h with h | h
  ·exact pN_b f s n x h
  ·rw [List.mem_singleton.1 h]; exact Kn _ _
theorem pN_d {f : Bool} {s : Dice} {b : Bd} (h : Bnd jp (.p b.l (.n (max b.r.nb b.l.len))) s) (n : Nat) : Bnd jp (.p b.l (.n (max b.r.nb b.l.len))) (pN f s n).2 := by
 induction n with
 | zero => exact h
 | succ n ih =>
  have e : (pN f s (n + 1)).2 = A5 (pN f s n).2 := by simp only [pN]
  rw [e]
  generalize (pN f s n).2 = y at *
  exact QF ih
def cuD (g : Int) (s : Dice) : Int := 1 + q8 s g
def cuN (g inner : Int) (s : Dice) : Nat := ((jl (cuD g s) inner (q6 s)).length - cuD g s - 1).toNat
def wP (g inner : Int) (f : Bool) (s : Dice) : qN := (cuD g s, jl (cuD g s) inner (q6 s), (pN f (vh (cuD g s) inner (q6 s)) (cuN g inner s)).1)
def zJ (g inner : Int) (f : Bool) (s : Dice) : Dice := (pN f (vh (cuD g s) inner (q6 s)) (cuN g inner s)).2
theorem pN_s {f : Bool} {s u : Dice} {l : List Pole} {i : Nat} (h : (l, u) = pN f s i) : (l ++ [zN u f], A5 u) = pN f s (i + 1) := by simp only [pN, ← h]
theorem Hi (g inner : Int) (s : Dice) : cuN g inner s = (((jl (1 + q8 s g) inner (q6 s)).length : Int) - (1 + q8 s g) - 1).toNat := rfl
theorem Mv {g inner : Int} {f : Bool} {s u : Dice} {l : List Pole} {i : Nat} (hI : (l, u) = pN f (vh (1 + q8 s g) inner (q6 s)) i ∧ i ≤ cuN g inner s) (hi : ¬ (i : Int) < ((jl (1 + q8 s g) inner (q6 s)).length : Int) - (1 + q8 s g) - 1) :
    u = zJ g inner f s ∧ (1 + q8 s g, jl (1 + q8 s g) inner (q6 s), l) = wP g inner f s := by
  have e := Hi g inner s
  obtain ⟨h1, h2⟩ := hI
  have e2 : i = cuN g inner s := by omega
  rw [e2] at h1
  unfold zJ wP cuD
  rw [← h1]
  exact ⟨rfl, rfl⟩
theorem HW {g inner : Int} (s : Dice) (f : Bool) (h1 : 1 ≤ g) (h5 : g ≤ 5) (h0 : 0 ≤ inner) (h4 : inner ≤ 4) : Bnd qQ (.p (.n 6) (.p (.s 16 (.n 6)) (.s 16 (qU 5)))) (wP g inner f s) := by
 have hr := vv s (m := g) (by omega)
 have hk := E6 (d := 1 + q8 s g) (q6 s) (by omega) h0 h4
 refine ⟨show Int.natAbs (1 + q8 s g) ≤ 6 by omega, hk, ?_, fun x hx => pN_b f _ _ x hx⟩
 show (pN f _ (cuN g inner s)).1.length ≤ 16
 rw [IE, Hi]
 have := hk.1
 omega
theorem Ps {g inner : Int} {f : Bool} {s : Dice} {b : Bd} (h : Bnd jp b s) : Bnd jp (.p b.l (.n (max b.r.nb b.l.len))) (zJ g inner f s) :=
 pN_d (My (Ih (Ac (b := b) h))) _
end
section
section
variable {P : Program}
theorem Step.same {w : World} {H : Heap} {β : Bm} (k : Nat) (h : Heap.On H w) : Step w H β [k] [] [] w H β :=
 ⟨rfl, rfl, rfl, Nat.le_refl _, fun _ _ _ => rfl, Heap.Le.refl _, fun b hb => .inl hb, h, fun _ _ => rfl, fun k hk => by simp at hk, fun k hk => by simp at hk⟩
end
end
section
section
variable {P : Program}
end
end
section
section
variable {P : Program}
theorem Qz {l : List Atom} (h : l.length = 1) : ∃ u, l = [u] := by
 match l, h with
 | [u], _ => exact ⟨u, rfl⟩
end
end
def vJ (K : Nat) (k : Option Nat) (l : List Nat) : Bool := !memN K l && (match k with | some k => !memN k l | none => true)
theorem zA {K : Nat} {k : Option Nat} {l : List Nat} (h : vJ K k l = true) : K ∉ l ∧ ∀ k0, k = some k0 → k0 ∉ l := by
 unfold vJ at h
 simp only [Bool.and_eq_true, Bool.not_eq_true'] at h
 refine ⟨fun hm => by rw [jU.2 hm] at h; exact absurd h.1 (by simp), fun k0 e hm => ?_⟩
 subst e
 have := h.2
 simp only [Bool.not_eq_true'] at this
 rw [jU.2 hm] at this; cases this
def Bu (st : WSt) (kb K : Nat) (k : Option Nat) : Bool :=
 Nat.blt K 100000 && jr st.m && jr st.L && !Nat.beq kb K && !(match k with | some k => Nat.beq kb k | none => false) && (look st.rL kb).isNone &&
  st.rm.all (fun p => vJ K k p.2.ids) && st.rL.all (fun p => renL K k p)
def vj (st : WSt) (kb K : Nat) (k : Option Nat) (cs : List WA) (B : WB) : WSt :=
 ⟨st.rm, st.m.filter (fun p => vJ K k p.2.ids), st.rL, (K, B) :: (kb, .rig cs) :: st.L.filter (fun p => !Nat.beq p.1 kb && renL K k p)⟩
def renB (kb i K : Nat) (t : Ty) (b : Bd) (st : WSt) : Option WSt :=
 match look st.L kb with
 | some (.rig l) => match l.drop i with
  | .gs k n w nb :: post => bif Nat.beq k K then some st else (match look st.L k with
   | some (.gro t' b' xs) => bif Bu st kb K (some k) && (vJ K (some k) (WAs.ids (l.take i)) && vJ K (some k) (WAs.ids post)) then some (vj st kb K (some k) (l.take i ++ .gs K n w nb :: post) (.gro t' b' xs)) else none
   | _ => none)
  | a :: post => bif jL a && (Bu st kb K none && (vJ K none (WAs.ids (l.take i)) && vJ K none (WAs.ids post))) then some (vj st kb K none (l.take i ++ .gs K 0 t.w 0 :: post) (.gro t b [])) else none
  | [] => none
 | _ => none
theorem Eh {β β' : Bm} {H : Heap} {x x' : Atom} {b : List Atom} (hb : ∀ q, menL q b = true → β' q = β q) (hx : ∀ u, x.sat β H u → x'.sat β' H u) :
    ∀ {a : List Atom}, (∀ q, menL q a = true → β' q = β q) → ∀ {vs : List Value}, Sats β H (a ++ x :: b) vs → Sats β' H (a ++ x' :: b) vs
  | [], _, _ :: _, h => ⟨hx _ h.1, Sats.congr (Heap.Le.refl _) hb h.2⟩
  | [], _, [], h => h.elim
  | y :: a, ha, v :: vs, h => ⟨Atom.sat_congr (Heap.Le.refl _) (fun k hk => ha k (by simp [menL, hk])) h.1, Eh hb hx (fun k hk => ha k (by simp [menL, hk])) h.2⟩
  | _ :: _, _, [], h => h.elim
theorem Ab (pre post : List WA) (a : WA) (x : Atom) (h : a.exp = [x]) : WAs.exp (pre ++ a :: post) = WAs.exp pre ++ x :: WAs.exp post := by
 rw [WAs.exp_app]; congr 1
 show a.exp ++ _ = _
 rw [h]; rfl
theorem GG {n : Nat} {Ks : List Nat} {st : WSt} (hk : st.Ok) {kb K : Nat} {k : Option Nat} {pre post : List WA} {a0 : WA} {t : Ty} {b0 : Bd} {l : List t.den} (hr : Bu st kb K k = true) {m w nb : Nat} (hm : m ≤ nb) (hB : (WB.gro t b0 l).ok)
    (hbox : look st.L kb = some (.rig (pre ++ a0 :: post))) (f1 : vJ K k (WAs.ids pre) = true) (f2 : vJ K k (WAs.ids post) = true)
    (hold : (∃ k0, k = some k0 ∧ k0 ≠ K ∧ a0 = .gs k0 m w nb ∧ look st.L k0 = some (.gro t b0 l)) ∨ (k = none ∧ m = 0 ∧ l = [] ∧ a0 = .vl (.slice none 0 0))) :
    EntW n Ks st (vj st kb K k (pre ++ .gs K m w nb :: post) (.gro t b0 l)) ∧ (vj st kb K k (pre ++ .gs K m w nb :: post) (.gro t b0 l)).Ok := by
  unfold Bu at hr
  simp only [Bool.and_eq_true, List.all_eq_true] at hr
  obtain ⟨⟨⟨⟨⟨⟨⟨r0, r1⟩, r2⟩, r6⟩, r7⟩, r3⟩, r4⟩, r5⟩ := hr
  have r0 : K < 100000 := by simpa using r0
  have r6 : kb ≠ K := fun e => by subst e; simp at r6
  have r7 : ∀ k0, k = some k0 → kb ≠ k0 := fun k0 h e => by subst h e; simp at r7
  have r3 : look st.rL kb = none := Option.isNone_iff_eq_none.1 r3
  generalize hcs : pre ++ WA.gs K m w nb :: post = cs
  have hboxL : qi st kb = some (.rig (pre ++ a0 :: post)) := by unfold qi; rw [hbox]
  have hslot : ∀ t v', qy (vj st kb K k cs (.gro _ b0 l)) t = some v' → qy st t = some v' ∧ K ∉ v'.ids := by
    intro t v' h
    unfold qy vj at h
    simp only at h
    cases hf : look (st.m.filter (fun p => vJ K k p.2.ids)) t with
    | some x =>
      rw [hf] at h; simp at h; subst h
      obtain ⟨h1, h2⟩ := v6 r1 hf
      exact ⟨by unfold qy; rw [h1], (zA h2).1⟩
    | none =>
      rw [hf] at h; simp only at h
      refine ⟨?_, (zA (r4 _ (qI h))).1⟩
      unfold qy; rw [hk.dm t (by rw [h]; simp)]; exact h
  have hblk : ∀ q b', qi (vj st kb K k cs (.gro _ b0 l)) q = some b' → (q = K ∧ b' = .gro _ b0 l) ∨ (q = kb ∧ b' = .rig cs) ∨ (q ≠ K ∧ q ≠ kb ∧ qi st q = some b' ∧ K ∉ b'.ids ∧ ∀ k0, k = some k0 → q ≠ k0) := by
    intro q b' h
    unfold qi vj at h
    simp only [look] at h
    by_cases e : K = q
    · subst e; simp at h; exact .inl ⟨rfl, h.symm⟩
    · rw [beqF e] at h; simp only [cond_false] at h
      by_cases e2 : kb = q
      · subst e2; simp at h; exact .inr (.inl ⟨rfl, h.symm⟩)
      · rw [beqF e2] at h; simp only [cond_false] at h
        refine .inr (.inr ⟨fun e' => e e'.symm, fun e' => e2 e'.symm, ?_⟩)
        cases hf : look (st.L.filter (fun p => !Nat.beq p.1 kb && renL K k p)) q with
        | some x =>
          rw [hf] at h; simp at h; subst h
          obtain ⟨h1, h2⟩ := v6 r2 hf
          simp only [renL, Bool.and_eq_true, Bool.not_eq_true'] at h2
          refine ⟨by unfold qi; rw [h1], fun hm => by rw [jU.2 hm] at h2; exact absurd h2.2.1.2 (by simp), fun k0 hk0 e => ?_⟩
          subst hk0 e; simp at h2
        | none =>
          rw [hf] at h; simp only at h
          have h4 := (r5 _ (qI h))
          simp only [renL, Bool.and_eq_true, Bool.not_eq_true'] at h4
          refine ⟨?_, fun hm => by rw [jU.2 hm] at h4; exact absurd h4.1.2 (by simp), fun k0 hk0 e => ?_⟩
          · unfold qi; rw [hk.dl q (by rw [h]; simp)]; exact h
          · subst hk0 e; simp at h4
  refine ⟨?_, ⟨fun t v' h => ?_, fun q b' h => ?_, fun t ht => ?_, fun q hq => ?_⟩⟩
  · intro E hn hK a w' H β hrep
    let β' : Bm := fun q => if q = K then (match k with | some k0 => β k0 | none => none) else β q
    have hβ : ∀ q, q ≠ K → β' q = β q := fun q h => if_neg h
    have hβK : β' K = (match k with | some k0 => β k0 | none => none) := if_pos rfl
    have holdL : ∀ k0, k = some k0 → look st.L k0 = some (.gro _ b0 l) ∧ qi st k0 = some (.gro _ b0 l) := by
      intro k0 h0
      rcases hold with ⟨k1, h1, _, _, h2⟩ | ⟨h1, _⟩
      · rw [h0] at h1; cases h1
        exact ⟨h2, by unfold qi; rw [h2]⟩
      · rw [h0] at h1; cases h1
    have hcA : ∀ (v' : WV), K ∉ v'.ids → ∀ q, v'.exp.men q = true → β' q = β q := fun v' h q hq => hβ q fun e => h (e ▸ WV.men_ids hq)
    have hcB : ∀ (b' : WB), K ∉ b'.ids → ∀ q, b'.exp.men q = true → β' q = β q := fun b' h q hq => hβ q fun e => h (e ▸ WB.men_ids hq)
    have hcL : ∀ (c : List WA), K ∉ WAs.ids c → ∀ q, menL q (WAs.exp c) = true → β' q = β q := fun c h q hq => hβ q fun e => h (e ▸ WAs.men_ids hq)
    have hrepL : ∀ k0, k = some k0 → (WB.gro _ b0 l).exp.rep β w' H k0 := fun k0 h0 => hrep.blk k0 _ (by rw [qm, qx, (holdL k0 h0).2]; rfl)
    have hin : ∀ q b', qi (vj st kb K k cs (.gro _ b0 l)) q = some b' → ∀ b c, β' q = some (b, c) → ∃ q0 x, toFS st.toA (2 * q0 + 1) = some (.bl x) ∧ β q0 = some (b, c) ∧ (q = K → k = some q0) ∧ (q ≠ K → q0 = q) := by
      intro q b' h b c hb
      rcases hblk q b' h with ⟨rfl, rfl⟩ | ⟨rfl, rfl⟩ | ⟨h1, _, h2, h3, h4⟩
      · rw [hβK] at hb
        cases k with
        | none => cases hb
        | some k0 => exact ⟨k0, _, by rw [qm, qx, (holdL k0 rfl).2]; rfl, hb, fun _ => rfl, fun h => absurd rfl h⟩
      · rw [hβ q r6] at hb
        exact ⟨q, _, by rw [qm, qx, hboxL]; rfl, hb, fun h => absurd h r6, fun _ => rfl⟩
      · rw [hβ q h1] at hb
        exact ⟨q, _, by rw [qm, qx, h2]; rfl, hb, fun h => absurd h h1, fun _ => rfl⟩
    refine ⟨H, β', ⟨hrep.defers, hrep.size, ?_, ?_, ?_, ?_, fun q hq => ?_, hrep.os, hrep.tape, hrep.output, hrep.wsize, hrep.frame, hrep.hle, hrep.hnew, hrep.hon⟩⟩
    · intro t av ht
      rw [qV, jn] at ht
      cases hv : qy (vj st kb K k cs (.gro _ b0 l)) t with
      | none => rw [hv] at ht; cases ht
      | some v' =>
        rw [hv] at ht; simp at ht; subst ht
        obtain ⟨h2, h3⟩ := hslot t v' hv
        obtain ⟨u, hu, hsat⟩ := hrep.slot t _ (by rw [qV, jn, h2]; rfl)
        exact ⟨u, hu, AV.sat_congr (Heap.Le.refl _) (hcA v' h3) hsat⟩
    · intro q x hx
      rw [qm, qx] at hx
      cases hv : qi (vj st kb K k cs (.gro _ b0 l)) q with
      | none => rw [hv] at hx; cases hx
      | some b' =>
        rw [hv] at hx; simp at hx; subst hx
        rcases hblk q b' hv with ⟨rfl, rfl⟩ | ⟨rfl, rfl⟩ | ⟨h1, _, h2, h3, h4⟩
        · rcases hold with ⟨k0, rfl, hne, hs, hl⟩ | ⟨rfl, rfl, rfl, hs⟩
          · have h9 := hrepL k0 rfl
            rcases h9 with ⟨h5, h6⟩ | ⟨b, c, arr, T, h5, h6, h7, h8, h9⟩
            · exact .inl ⟨by rw [hβK]; exact h5, h6⟩
            · refine .inr ⟨b, c, arr, T, by rw [hβK]; exact h5, h6, h7, h8, ?_⟩
              exact Sats.congr (Heap.Le.refl _) (fun q hq => by rw [vF] at hq; cases hq) h9
          · exact .inl ⟨hβK, rfl⟩
        · obtain ⟨b, c, arr, T, h5, h6, h7⟩ := hrep.blk q _ (by rw [qm, qx, hboxL]; rfl)
          refine ⟨b, c, arr, T, by rw [hβ q r6]; exact h5, h6, ?_⟩
          subst hcs
          rw [Ab _ _ _ (.gs K m) rfl]
          rcases hold with ⟨k0, rfl, hne, rfl, hl⟩ | ⟨rfl, rfl, rfl, rfl⟩
          · rw [Ab _ _ _ (.gs k0 m) rfl] at h7
            refine Eh (hcL post (zA f2).1) (fun u hu => ?_) (hcL pre (zA f1).1) h7
            rcases hu with ⟨h5, h6, h7⟩ | ⟨b, c, h5, h6⟩
            · exact .inl ⟨by rw [hβK]; exact h5, h6, h7⟩
            · exact .inr ⟨b, c, by rw [hβK]; exact h5, h6⟩
          · rw [Ab _ _ _ (.val (.slice none 0 0)) rfl] at h7
            refine Eh (hcL post (zA f2).1) (fun u hu => ?_) (hcL pre (zA f1).1) h7
            exact .inl ⟨hβK, rfl, hu.1⟩
        · refine Blk.rep_congr (hrep.blk q b'.exp (by rw [qm, qx, h2]; rfl)) (Heap.Le.refl _) ?_ (fun _ _ _ => rfl)
          rintro q' (rfl | hq')
          · exact hβ _ h1
          · exact hcB b' h3 q' hq'
    · intro q x b c hx hb
      rw [qm, qx] at hx
      cases hv : qi (vj st kb K k cs (.gro _ b0 l)) q with
      | none => rw [hv] at hx; cases hx
      | some b' =>
        obtain ⟨q0, y, h1, h2, _, _⟩ := hin q b' hv b c hb
        exact hrep.own q0 y b c h1 h2
    · intro q q' x x' b c c' hx hx' hne hb hb'
      rw [qm, qx] at hx hx'
      cases hv : qi (vj st kb K k cs (.gro _ b0 l)) q with
      | none => rw [hv] at hx; cases hx
      | some b1 =>
        cases hv' : qi (vj st kb K k cs (.gro _ b0 l)) q' with
        | none => rw [hv'] at hx'; cases hx'
        | some b2 =>
          obtain ⟨q0, y, h1, h2, h3, h4⟩ := hin q b1 hv b c hb
          obtain ⟨q0', y', h1', h2', h3', h4'⟩ := hin q' b2 hv' b c' hb'
          refine hrep.inj q0 q0' y y' b c c' h1 h1' ?_ h2 h2'
          intro e
          by_cases eq : q = K
          · have k1 := h3 eq
            have hq' : q' ≠ K := fun e' => hne (eq.trans e'.symm)
            have := h4' hq'
            rcases hblk q' b2 hv' with ⟨e', _⟩ | ⟨e', _⟩ | ⟨_, _, _, _, h9⟩
            · exact hq' e'
            · exact r7 q0 k1 (by rw [e, this, e'])
            · exact h9 q0 k1 (by rw [← this, e])
          · have := h4 eq
            by_cases eq' : q' = K
            · have k1 := h3' eq'
              rcases hblk q b1 hv with ⟨e', _⟩ | ⟨e', _⟩ | ⟨_, _, _, _, h9⟩
              · exact eq e'
              · exact r7 q0' k1 (by rw [← e, this, e'])
              · exact h9 q0' k1 (by rw [← this, e])
            · exact hne (by rw [← h4 eq, ← h4' eq', e])
    · rw [hβ q (fun e => by have := E.hKs q hq; omega)]; exact hrep.bor q hq
  · exact hk.m t v' (hslot t v' h).1
  · rcases hblk q b' h with ⟨_, rfl⟩ | ⟨_, rfl⟩ | ⟨_, _, h2, _⟩
    · exact hB
    · have h0 : WAs.ok (pre ++ a0 :: post) := hk.l kb (.rig (pre ++ a0 :: post)) hboxL
      obtain ⟨h1, h2⟩ := WAs.ok_app.1 h0
      subst hcs
      exact WAs.ok_app.2 ⟨h1, WAs.ok_cons.2 ⟨hm, (WAs.ok_cons.1 h2).2⟩⟩
    · exact hk.l q b' h2
  · exact zX (hk.dm t ht)
  · show look ((K, WB.gro t b0 l) :: (kb, .rig cs) :: st.L.filter (fun p => !Nat.beq p.1 kb && renL K k p)) q = none
    have hq' : look st.rL q ≠ none := hq
    obtain ⟨x, hx⟩ := Option.ne_none_iff_exists'.1 hq'
    have h4 := (r5 _ (qI hx))
    simp only [renL, Bool.and_eq_true, Bool.not_eq_true'] at h4
    have hne : K ≠ q := fun e => by subst e; simp at h4
    have hne2 : kb ≠ q := fun e => by subst e; exact hq' r3
    simp only [look, beqF hne, beqF hne2, cond_false]
    exact zX (hk.dl q hq')
theorem O4 {n : Nat} {Ks : List Nat} {st st' : WSt} (hk : st.Ok) {kb i K : Nat} {t : Ty} {b : Bd} (h : renB kb i K t b st = some st') : EntW n Ks st st' ∧ st'.Ok ∧ st'.rm = st.rm ∧ st'.rL = st.rL := by
 unfold renB at h
 split at h
 ·rename_i l hbox
  have hl : ∀ {a : WA} {post : List WA}, l.drop i = a :: post → look st.L kb = some (.rig (l.take i ++ a :: post)) := fun e => by rw [← e, List.take_append_drop]; exact hbox
  split at h
  ·rename_i k m w nb post hd
   cases hb : Nat.beq k K with
   | true => rw [hb] at h; simp at h; subst h; exact ⟨Ent.refl, hk, rfl, rfl⟩
   | false =>
    rw [hb] at h; simp only [cond_false] at h
    split at h
    ·rename_i t' b' xs hL
     cases hr : Bu st kb K (some k) && (vJ K (some k) (WAs.ids (l.take i)) && vJ K (some k) (WAs.ids post)) with
     | false => rw [hr] at h; cases h
     | true =>
      rw [hr] at h; simp at h; subst h
      simp only [Bool.and_eq_true] at hr
      have hB : (WB.gro t' b' xs).ok := hk.l k _ (by unfold qi; rw [hL])
      have hok : WAs.ok (l.take i ++ .gs k m w nb :: post) := hk.l kb (.rig (l.take i ++ .gs k m w nb :: post)) (by unfold qi; rw [hl hd])
      have hmn : m ≤ nb := (WAs.ok_cons.1 (WAs.ok_app.1 hok).2).1
      obtain ⟨h1, h2⟩ := GG (n := n) (Ks := Ks) hk hr.1 hmn hB (hl hd) hr.2.1 hr.2.2 (.inl ⟨k, rfl, (fun e => by subst e; simp at hb), rfl, hL⟩)
      exact ⟨h1, h2, rfl, rfl⟩
    ·cases h
  ·rename_i a post hne hd
   cases hc : jL a && (Bu st kb K none && (vJ K none (WAs.ids (l.take i)) && vJ K none (WAs.ids post))) with
   | false => rw [hc] at h; cases h
   | true =>
    rw [hc] at h; simp at h; subst h
    simp only [Bool.and_eq_true] at hc
    have := vo hc.1; subst this
    obtain ⟨h1, h2⟩ := GG (n := n) (Ks := Ks) (t := t) (b0 := b) (l := []) (w := t.w) hk hc.2.1 (Nat.le_refl 0) (fun x hx => by simp at hx) (hl hd) hc.2.2.1 hc.2.2.2 (.inr ⟨rfl, rfl, rfl, rfl⟩)
    exact ⟨h1, h2, rfl, rfl⟩
  ·cases h
 ·cases h
def MV (kb K : Nat) (pre post : List WA) (t : Ty) (b : Bd) (nb : Nat) (st : WSt) : Option (List Prop × List t.den) :=
  match look st.rL kb, look st.rL K with
  | none, none => match look st.L kb, look st.L K with
    | some (.rig c), some (.gro t' b' l) => match c.drop pre.length with
      | .gs k n w nb' :: post' => if h : (Ty.sl t').beq (.sl t) = true then
          (bif Nat.beq k K && Nat.beq w t.w then some ((c.take pre.length = pre) :: (post' = post) :: (n = l.length) :: ((bif Nat.ble nb' nb then [] else [n ≤ nb]) ++ (bif b'.le b then [] else [∀ x ∈ jD (t := .sl t') (t' := .sl t) h l, Bnd t b x])), jD (t := .sl t') (t' := .sl t) h l) else none) else none
      | _ => none
    | _, _ => none
  | _, _ => none
def gboX (kb K : Nat) (pre post : List WA) (t : Ty) (b : Bd) (nb : Nat) : HavX where
 t := .sl t
 bnd l := (List.length (show List t.den from l) ≤ nb ∧ ∀ x ∈ (show List t.den from l), Bnd t b x) ∧ WAs.ok pre ∧ WAs.ok post
 ss := []
 bs := [kb, K]
 gb := [K]
 m _ := []
 L l := [(kb, .rig (pre ++ .gs K (List.length (show List t.den from l)) t.w nb :: post)), (K, .gro t b l)]
 val st := MV kb K pre post t b nb st
 ren st := renB kb pre.length K t b st
 hm := fun _ p hp => by simp at hp
 hL := by
  intro x hx p hp
  simp only [List.mem_cons, List.not_mem_nil, or_false] at hp
  rcases hp with rfl | rfl
  ·exact ⟨by simp, WAs.ok_app.2 ⟨hx.2.1, WAs.ok_cons.2 ⟨hx.1.1, hx.2.2⟩⟩⟩
  ·exact ⟨by simp, hx.1.2⟩
 hval := by
  intro st vc x hk e hvc
  unfold MV at e
  split at e
  ·rename_i hr1 hr2
   split at e
   ·rename_i c t' b' l h1 h2
    split at e
    ·rename_i k n w nb' post' hd
     split at e
     ·rename_i hb
      have := Ty.beq_eq hb
      cases this
      cases hc : Nat.beq k K && Nat.beq w t.w with
      | false => rw [hc] at e; cases e
      | true =>
       rw [hc] at e; simp only [cond_true, Option.some.injEq, Prod.mk.injEq] at e; obtain ⟨rfl, rfl⟩ := e
       simp only [Bool.and_eq_true] at hc
       have q1 := Nat.eq_of_beq_eq_true hc.1
       have q2 := Nat.eq_of_beq_eq_true hc.2
       subst q1 q2
       have e1 : c.take pre.length = pre := hvc _ List.mem_cons_self
       have e2 : post' = post := hvc _ (by simp)
       have e3 : n = l.length := hvc _ (by simp)
       obtain ⟨p1, p2⟩ := AllP.app (fun p hp => hvc p (List.mem_cons_of_mem _ (List.mem_cons_of_mem _ (List.mem_cons_of_mem _ hp))))
       subst e2
       have hcc : c = pre ++ .gs k n t.w nb' :: post' := by
        have h9 := List.take_append_drop pre.length c
        rw [e1, hd] at h9; exact h9.symm
       have hL1 : qi st kb = some (.rig c) := by unfold qi; rw [h1]
       have hL2 : qi st k = some (.gro t b' l) := by unfold qi; rw [h2]
       have e5 : ∀ x ∈ l, Bnd t b x := by
        cases hle : b'.le b with
        | true => exact fun x hx => Bnd.mono hle ((hk.l k _ hL2) x hx)
        | false => rw [hle] at p2; exact p2 (∀ x ∈ l, Bnd t b x) List.mem_cons_self
       have hok : WAs.ok c := hk.l kb (.rig c) hL1
       rw [hcc] at hok
       obtain ⟨o1, o2⟩ := WAs.ok_app.1 hok
       have hnn : n ≤ nb' := (WAs.ok_cons.1 o2).1
       have e4 : n ≤ nb := by
        cases hle : Nat.ble nb' nb with
        | true => have := Nat.le_of_ble_eq_true hle; omega
        | false => rw [hle] at p1; exact p1 (n ≤ nb) List.mem_cons_self
       refine ⟨⟨⟨by show l.length ≤ nb; omega, e5⟩, o1, (WAs.ok_cons.1 o2).2⟩, fun p hp => by simp at hp, fun p hp => ?_⟩
       simp only [List.mem_cons, List.not_mem_nil, or_false] at hp
       rcases hp with rfl | rfl
       ·refine ⟨hr1, _, hL1, ?_⟩
        show BImp kb (.rigid (WAs.exp c)) (.rigid (WAs.exp (pre ++ .gs k l.length t.w nb :: post')))
        rw [hcc, Ab _ _ _ (.gs k n) rfl, Ab _ _ _ (.gs k l.length) rfl, e3]
        exact fun _ _ _ h => h
       ·exact ⟨hr2, _, hL2, fun _ _ _ h => h⟩
     ·cases e
    ·cases e
   ·cases e
  ·cases e
 hren := fun hk h => O4 hk h
section
section
variable {P : Program}
theorem LD {op : Op} {ty : TypeId} {ins : List (Operand × AV)} {k : Nat} {b b' : Blk} {R : AV} (hi : BImp k b b')
    (h : ∀ (a : Act) (w : World) (H : Heap) (β : Bm), (∀ p ∈ ins, p.2.sat β H (a.eval p.1)) → b.rep β w H k → Heap.On H w →
      ∃ v, R.sat β H v ∧ ∀ dst pos after guard, (execOp a.eval ⟨dst, op, ty, pos, after, guard⟩).run P w = .ok (.value v) w) : OpOk P op ty ins [(k, b)] R [(k, some b')] := by
  intro dst pos after guard a w H β K Q hins hkin _ hon hK
  have hr := (hkin (k, b) List.mem_cons_self).1
  obtain ⟨v, hv, hrun⟩ := h a w H β hins hr hon
  unfold Oper.wp
  rw [hrun]
  refine hK v w H β (by simpa [kwOf, knOf, kdOf, look] using Step.same k hon) hv fun k' b1 hb1 => ?_
  simp only [List.mem_singleton, Prod.mk.injEq, Option.some.injEq] at hb1
  obtain ⟨rfl, rfl⟩ := hb1
  exact hi _ _ _ hr
theorem NM {t ty : TypeId} {x : Operand} {k off s : Nat} {cs cs' : List Atom} {u : Atom} (hs : qO P t = some (false, s)) (hl : cs[off]? = some u) (hc : AImps cs cs') :
    OpOk P (.load t x) ty [(x, .c (.one (.loc k off)))] [(k, .rigid cs)] (.c (.one u)) [(k, some (.rigid cs'))] :=
  LD (vG hc) fun a w H β hins hk _ => by
    obtain ⟨b, c, hβ, hx⟩ := hins _ List.mem_cons_self
    obtain ⟨b', c', arr, T, hβ', hb, hsat⟩ := hk
    simp only at hβ hx
    rw [hβ] at hβ'; cases hβ'
    obtain ⟨v, hv, hu⟩ := Sats.get off hsat hl
    refine ⟨v, hu, fun _ _ _ _ => ?_⟩
    simp only [execOp, Instr.loadAt, hx, Instr.sureAddr, Sem.run_bind, Sem.run_pure, Result.andThen_ok,
      jT hs hb (off := off) (by simpa using hv)]
def gLF (P : Program) : Op → Option Tmp → (Nat → Option WB) → List WV → HR
 | .load ty _, _, bl, [.c (.one (.loc k off))] => match bl k, qO P ty with
  | some (.rig l), some (false, s) => match carve l off 1 with
   | some (a, [m], p) => .ok [] (.c (.one m)) [k] [(k, some (.rig (a ++ .un :: p)))]
   | _ => .bad
  | _, _ => .bad
 | _, _, _, _ => .bad
def EV : Ext P := ⟨gLF P, by
 intro op dst ty bl vs hl
 unfold gLF
 split
 ·rename_i ty' x k off
  split
  ·rename_i l s hbl hs
   split
   ·rename_i a m p hc
    intro hv hbo _ kin hk hkb
    rw [vb hk hkb hbl]
    obtain ⟨e, l1, l2, o⟩ := jo hc
    obtain ⟨oa, om, op⟩ := o (hbo k _ hbl)
    have hm1 : (WAs.exp [m]).length = 1 := l2
    have hme : WAs.exp [m] = m.exp := by simp [WAs.exp]
    rw [hme] at hm1
    have hwd : m.wd = 1 := by rw [← m.exp_len]; exact hm1
    obtain ⟨u, hu⟩ := Qz hm1
    have hat : (WAs.exp l)[off]? = some u := by
     rw [e, List.getElem?_append_right (by omega), l1, Nat.sub_self, hme, hu]; rfl
    have himp : AImps (WAs.exp l) (WAs.exp (a ++ .un :: p)) := by
     rw [e, Ab _ _ _ (.abs unP) rfl, hme, hu]
     exact zy je ⟨fun _ _ _ h => Atom.sat_one h, je⟩
    have hmok : m.ok := om m List.mem_cons_self
    refine ⟨?_, ⟨hmok, hwd⟩, v9 (WAs.ok_app.2 ⟨oa, WAs.ok_cons.2 ⟨trivial, op⟩⟩)⟩
    have := NM (P := P) (t := ty') (ty := ty) (x := x) (k := k) (off := off) (s := s) hs hat himp
    refine this.weak (fun β H v h => ?_) (CD fun _ _ _ h => h)
    show (AV.c (.one (m.exp.headD (.val (.bool false))))).sat β H v
    rw [hu]; exact h
   ·exact trivial
  ·exact trivial
 ·exact trivial⟩
end
end
abbrev Py : FB := ⟨83, (.pr (.sl (.int .i64)) (.nat .i64)), (.p (.s 1048576 (.n 9223372036854775808)) (.n 1048576)), [(.int .i64), (.int .i64)], [(.n 1048576), (.n 1048576)], fun s z => (fun (d : Int) (inner : Int) => [1 ≤ d, d ≤ 5, 0 ≤ inner, inner ≤ 4]) z.1 z.2, fun tb b s z => (fun (d : Int) (inner : Int) => .c (.one (.dt (.sl .rat) (.s 16 (.n 6)) (jl d inner s)))) z.1 z.2, fun s z => (fun (d : Int) (inner : Int) => vh d inner s) z.1 z.2, fun tb b => .p tb.l (.n (max tb.r.nb tb.l.len))⟩
theorem Pz : Py.OK Tryz.prog := mkB' hmix 80 Tryz.func83 rfl rfl (by decide) [(17, .c wC), (18, .b Bf), (31, .c wY), (33, .c DK), (62, .c BH)] (fun _ => rfl) (fun _ _ => rfl) (fun _ _ _ _ => rfl) (fun (s : List Int × Nat) (d : Int) (inner : Int) tb b hs hx hp => ⟨q9 (E6 s (hp _ (by simp)) (hp _ (by simp)) (hp _ (by simp))) rfl, Ih hs⟩) (fun (s : List Int × Nat) (d : Int) (inner : Int) hs hx hp => by
 have hx0 : Int.natAbs d ≤ 1048576 := hx.1
 have hx1 : Int.natAbs inner ≤ 1048576 := hx.2
 have hp0 : 1 ≤ d := hp _ (List.mem_cons_self)
 have hp1 : d ≤ 5 := hp _ (List.mem_cons_of_mem _ (List.mem_cons_self))
 have hp2 : 0 ≤ inner := hp _ (List.mem_cons_of_mem _ (List.mem_cons_of_mem _ (List.mem_cons_self)))
 have hp3 : inner ≤ 4 := hp _ (List.mem_cons_of_mem _ (List.mem_cons_of_mem _ (List.mem_cons_of_mem _ (List.mem_cons_self))))
 exact ⟨.loop [.s 9 (.nat .i64) (.n 7), .g 8 90001 .rat (.n 6) 1048576] (fun ((i, k) : Nat × List Rat) => k = List.replicate i ((q8 s 4 - 2 : Int) : Rat) ∧ (i : Int) ≤ d + 1) (fun ((i, k) : Nat × List Rat) => (d + 1).toNat - i) (fun ((i, k) : Nat × List Rat) => .cond (.h 6 2 (.mk (.im .rat (.n 6))) (.nil)) (.loop [.s 10 (.int .i64) (.n 5), .g 8 90002 .rat (.n 6) 1048576, .r 7 .rat (.n 6), .r 100000 (.pr (.sl (.int .i64)) (.nat .i64)) (.p (.s 1048576 (.n 9223372036854775808)) (.n 1048576))] (fun ((m, k2, t, u) : Int × List Rat × Rat × List Int × Nat) => knN d (m).toNat (k2, t, u) = knR d inner s ∧ 0 ≤ m ∧ m ≤ 4 ∧ KnI (4 + 6 * (4 - (m)).toNat) (10 - (m).toNat) (k2, t, u) ∧ d + 1 ≤ (k2.length : Int)) (fun ((m, k2, t, u) : Int × List Rat × Rat × List Int × Nat) => (m).toNat) (fun ((m, k2, t, u) : Int × List Rat × Rat × List Int × Nat) => .cond (.cond (.h 12 2 (.mk (.im .rat (.n 60))) (.h 9 1 (.i (.z (m - 1) 5)) (.nil))) (.cond (.h 12 2 (.mk (.im .rat (.n 60))) (.h 9 1 (.i (.z (m - 1) 5)) (.nil))) (.h 10 16 (.i (.n (((k2.length : Int) - d).toNat) 1048576)) (.cond (.h 12 2 (.mk (.im .rat (.n 60))) (.h 9 1 (.i (.z (m - 1) 5)) (.nil))) (.h 12 2 (.mk (.im .rat (.n 60))) (.h 9 1 (.i (.z (m - 1) 5)) (.nil))))))) (.loop [.s 11 (.nat .i64) (.n 7), .g 8 90003 .rat (.n 6) 1048576] (fun ((j, k3) : Nat × List Rat) => k3 = k2 ++ List.replicate j (t + ((1 : Int) : Rat)) ∧ (j : Int) ≤ d + 1) (fun ((j, k3) : Nat × List Rat) => (d + 1).toNat - j) (fun ((j, k3) : Nat × List Rat) => .cond (.h 17 2 (.mk (.im .rat (.n 60))) (.nil)) (.pre 18 (.frz 90003 true [8]) (.nil))))))), kcast (by kernel_rfl) (I (by omega : (0 : Int) < 4) (I (rfl : 0 = ([] : List Rat).length) (I (⟨rfl, by omega⟩ : ([] : List Rat) = List.replicate 0 ((q8 s 4 - 2 : Int) : Rat) ∧ (0 : Int) ≤ d + 1) (fun (i : Nat) (k : List Rat) (hb1 : HB [.s 9 (.nat .i64) (.n 7), .g 8 90001 .rat (.n 6) 1048576] (i, k)) (hI : k = List.replicate i ((q8 s 4 - 2 : Int) : Rat) ∧ (i : Int) ≤ d + 1) => have hv20 := (show i ≤ 7 from hb1.1); have hv21 := (show k.length ≤ 1048576 from hb1.2.1); have hkl := (show k.length = i by rw [hI.1, List.length_replicate]); And.intro (fun (h2 : (i : Int) ≤ d) => I (by omega : k.length = k.length) (I (show (i + 1) ≤ 7 by omega : Bnd (.nat .i64) (.n 7) (i + 1)) (I (by (try simp only [List.length_append, List.length_cons, List.length_nil]) <;> omega : k.length + [(((q8 s 4) - 2 : Int) : Rat)].length = (k ++ [(((q8 s 4) - 2 : Int) : Rat)]).length) (I (by (try simp only [List.length_append, List.length_cons, List.length_nil]) <;> omega : k.length + [(((q8 s 4) - 2 : Int) : Rat)].length ≤ 1048576) (And.intro (⟨by rw [hI.1, List.replicate_succ'], by omega⟩ : (k ++ [(((q8 s 4) - 2 : Int) : Rat)]) = List.replicate (i + 1) ((q8 s 4 - 2 : Int) : Rat) ∧ (i + 1 : Int) ≤ d + 1) (by omega : (d + 1).toNat - (i + 1) < (d + 1).toNat - i)))))) (fun (h3 : ¬ ((i : Int) ≤ d)) => have hnv := (vv (q6 s) (m := inner + 1) (by omega)); I (by omega : (0 : Int) < inner + 1) (I (show Int.natAbs (q8 (q6 s) (inner + 1)) ≤ 5 by omega : Bnd (.int .i64) (.n 5) (q8 (q6 s) (inner + 1))) (I (by omega : k.length = k.length) (I (Q9 hI h3 hp1 hp2 hp3 : knN d (q8 (q6 s) (inner + 1)).toNat (k, (((q8 s 4) - 2 : Int) : Rat), q6 (q6 s)) = knR d inner s ∧ 0 ≤ q8 (q6 s) (inner + 1) ∧ q8 (q6 s) (inner + 1) ≤ 4 ∧ KnI (4 + 6 * (4 - (q8 (q6 s) (inner + 1))).toNat) (10 - (q8 (q6 s) (inner + 1)).toNat) (k, (((q8 s 4) - 2 : Int) : Rat), q6 (q6 s)) ∧ d + 1 ≤ (k.length : Int)) (fun (m : Int) (k2 : List Rat) (t : Rat) (u : List Int × Nat) (hb4 : HB [.s 10 (.int .i64) (.n 5), .g 8 90002 .rat (.n 6) 1048576, .r 7 .rat (.n 6), .r 100000 (.pr (.sl (.int .i64)) (.nat .i64)) (.p (.s 1048576 (.n 9223372036854775808)) (.n 1048576))] (m, k2, t, u)) (hJ : knN d (m).toNat (k2, t, u) = knR d inner s ∧ 0 ≤ m ∧ m ≤ 4 ∧ KnI (4 + 6 * (4 - (m)).toNat) (10 - (m).toNat) (k2, t, u) ∧ d + 1 ≤ (k2.length : Int)) => have hv18 := (show Int.natAbs m ≤ 5 from hb4.1); have hv19 := (show k2.length ≤ 1048576 from hb4.2.1.1); have hkl4 := hJ.2.2.2.2; have hkl2 := (show k2.length ≤ 10 from Nat.le_trans hJ.2.2.2.1.l (by omega)); And.intro (fun (h5 : 0 < m) => And.intro (fun (h6 : ((k2.length : Nat) : Int) = d + 1) => I (by omega : (0 : Int) < 3) (I (by omega : (0 : Int) < 2) (I (by omega : k2.length = k2.length) (I ((fun x hx => by rw [List.mem_singleton.1 hx]; first | exact ((hJ.2.2.2.1.t.addT _).le (by omega)).bnd | exact (hJ.2.2.2.1.t.le (by omega)).bnd : ∀ x ∈ [t + (((1 + (q8 u 3) : Int) : Rat) / ((1 + (q8 (q6 u) 2) : Int) : Rat))], Bnd .rat (.n 6) x) : ∀ x ∈ [t + (((1 + (q8 u 3) : Int) : Rat) / ((1 + (q8 (q6 u) 2) : Int) : Rat))], Bnd .rat (.n 6) x) (I (vn rfl (by omega) : qo .sub .i64 m 1 (m - 1)) (I (by omega : Int.natAbs (m - 1) ≤ 5) (have hN := Ds (by omega) hJ (q0e h6); I (by (try simp only [List.length_append, List.length_cons, List.length_nil]) <;> omega : k2.length + [t + (((1 + (q8 u 3) : Int) : Rat) / ((1 + (q8 (q6 u) 2) : Int) : Rat))].length = (k2 ++ [t + (((1 + (q8 u 3) : Int) : Rat) / ((1 + (q8 (q6 u) 2) : Int) : Rat))]).length) (I (by (try simp only [List.length_append, List.length_cons, List.length_nil]) <;> omega : k2.length + [t + (((1 + (q8 u 3) : Int) : Rat) / ((1 + (q8 (q6 u) 2) : Int) : Rat))].length ≤ 1048576) (I ((hN.2.2.2.1.t.le (by omega)).bnd : Bnd .rat (.n 6) (t + (((1 + (q8 u 3) : Int) : Rat) / ((1 + (q8 (q6 u) 2) : Int) : Rat)))) (And.intro (hN : knN d (m - 1).toNat (k2 ++ [t + (((1 + (q8 u 3) : Int) : Rat) / ((1 + (q8 (q6 u) 2) : Int) : Rat))], t + (((1 + (q8 u 3) : Int) : Rat) / ((1 + (q8 (q6 u) 2) : Int) : Rat)), q6 (q6 u)) = knR d inner s ∧ 0 ≤ m - 1 ∧ m - 1 ≤ 4 ∧ KnI (4 + 6 * (4 - (m - 1)).toNat) (10 - (m - 1).toNat) (k2 ++ [t + (((1 + (q8 u 3) : Int) : Rat) / ((1 + (q8 (q6 u) 2) : Int) : Rat))], t + (((1 + (q8 u 3) : Int) : Rat) / ((1 + (q8 (q6 u) 2) : Int) : Rat)), q6 (q6 u)) ∧ d + 1 ≤ ((k2 ++ [t + (((1 + (q8 u 3) : Int) : Rat) / ((1 + (q8 (q6 u) 2) : Int) : Rat))]).length : Int)) (by omega : (m - 1).toNat < (m).toNat))))))))))) (fun (h7 : ¬ (((k2.length : Nat) : Int) = d + 1)) => I (by omega : (0 : Int) < 3) (And.intro (fun (h8 : 0 < q8 u 3) => I (by omega : (0 : Int) < 3) (I (by omega : (0 : Int) < 2) (I (by omega : k2.length = k2.length) (I ((fun x hx => by rw [List.mem_singleton.1 hx]; first | exact ((hJ.2.2.2.1.t.addT _).le (by omega)).bnd | exact (hJ.2.2.2.1.t.le (by omega)).bnd : ∀ x ∈ [t + (((1 + (q8 (q6 u) 3) : Int) : Rat) / ((1 + (q8 (q6 (q6 u)) 2) : Int) : Rat))], Bnd .rat (.n 6) x) : ∀ x ∈ [t + (((1 + (q8 (q6 u) 3) : Int) : Rat) / ((1 + (q8 (q6 (q6 u)) 2) : Int) : Rat))], Bnd .rat (.n 6) x) (I (vn rfl (by omega) : qo .sub .i64 m 1 (m - 1)) (I (by omega : Int.natAbs (m - 1) ≤ 5) (have hN := Ds (by omega) hJ (Sl h7 (.inl h8)); I (by (try simp only [List.length_append, List.length_cons, List.length_nil]) <;> omega : k2.length + [t + (((1 + (q8 (q6 u) 3) : Int) : Rat) / ((1 + (q8 (q6 (q6 u)) 2) : Int) : Rat))].length = (k2 ++ [t + (((1 + (q8 (q6 u) 3) : Int) : Rat) / ((1 + (q8 (q6 (q6 u)) 2) : Int) : Rat))]).length) (I (by (try simp only [List.length_append, List.length_cons, List.length_nil]) <;> omega : k2.length + [t + (((1 + (q8 (q6 u) 3) : Int) : Rat) / ((1 + (q8 (q6 (q6 u)) 2) : Int) : Rat))].length ≤ 1048576) (I ((hN.2.2.2.1.t.le (by omega)).bnd : Bnd .rat (.n 6) (t + (((1 + (q8 (q6 u) 3) : Int) : Rat) / ((1 + (q8 (q6 (q6 u)) 2) : Int) : Rat)))) (And.intro (hN : knN d (m - 1).toNat (k2 ++ [t + (((1 + (q8 (q6 u) 3) : Int) : Rat) / ((1 + (q8 (q6 (q6 u)) 2) : Int) : Rat))], t + (((1 + (q8 (q6 u) 3) : Int) : Rat) / ((1 + (q8 (q6 (q6 u)) 2) : Int) : Rat)), q6 (q6 (q6 u))) = knR d inner s ∧ 0 ≤ m - 1 ∧ m - 1 ≤ 4 ∧ KnI (4 + 6 * (4 - (m - 1)).toNat) (10 - (m - 1).toNat) (k2 ++ [t + (((1 + (q8 (q6 u) 3) : Int) : Rat) / ((1 + (q8 (q6 (q6 u)) 2) : Int) : Rat))], t + (((1 + (q8 (q6 u) 3) : Int) : Rat) / ((1 + (q8 (q6 (q6 u)) 2) : Int) : Rat)), q6 (q6 (q6 u))) ∧ d + 1 ≤ ((k2 ++ [t + (((1 + (q8 (q6 u) 3) : Int) : Rat) / ((1 + (q8 (q6 (q6 u)) 2) : Int) : Rat))]).length : Int)) (by omega : (m - 1).toNat < (m).toNat))))))))))) (fun (h9 : ¬ (0 < q8 u 3)) => I (vn (by omega) (by omega) : qo .sub .i64 ((k2.length : Nat) : Int) d ((((k2.length : Int) - d).toNat : Nat) : Int)) (I (by omega : ((k2.length : Int) - d).toNat ≤ 1048576) (I (by omega : ((k2.length : Int) - d).toNat < k2.length) (I (by omega : ((k2.length : Int) - d).toNat < k2.length) (And.intro (fun (h10 : decide (t = (k2.getD (((k2.length : Int) - d).toNat) 0)) = true) => I (by omega : (0 : Int) < 3) (I (by omega : (0 : Int) < 2) (I (by omega : k2.length = k2.length) (I ((fun x hx => by rw [List.mem_singleton.1 hx]; first | exact ((hJ.2.2.2.1.t.addT _).le (by omega)).bnd | exact (hJ.2.2.2.1.t.le (by omega)).bnd : ∀ x ∈ [t + (((1 + (q8 (q6 u) 3) : Int) : Rat) / ((1 + (q8 (q6 (q6 u)) 2) : Int) : Rat))], Bnd .rat (.n 6) x) : ∀ x ∈ [t + (((1 + (q8 (q6 u) 3) : Int) : Rat) / ((1 + (q8 (q6 (q6 u)) 2) : Int) : Rat))], Bnd .rat (.n 6) x) (I (vn rfl (by omega) : qo .sub .i64 m 1 (m - 1)) (I (by omega : Int.natAbs (m - 1) ≤ 5) (have hN := Ds (by omega) hJ (Sl h7 (.inr (of_decide_eq_true h10))); I (by (try simp only [List.length_append, List.length_cons, List.length_nil]) <;> omega : k2.length + [t + (((1 + (q8 (q6 u) 3) : Int) : Rat) / ((1 + (q8 (q6 (q6 u)) 2) : Int) : Rat))].length = (k2 ++ [t + (((1 + (q8 (q6 u) 3) : Int) : Rat) / ((1 + (q8 (q6 (q6 u)) 2) : Int) : Rat))]).length) (I (by (try simp only [List.length_append, List.length_cons, List.length_nil]) <;> omega : k2.length + [t + (((1 + (q8 (q6 u) 3) : Int) : Rat) / ((1 + (q8 (q6 (q6 u)) 2) : Int) : Rat))].length ≤ 1048576) (I ((hN.2.2.2.1.t.le (by omega)).bnd : Bnd .rat (.n 6) (t + (((1 + (q8 (q6 u) 3) : Int) : Rat) / ((1 + (q8 (q6 (q6 u)) 2) : Int) : Rat)))) (And.intro (hN : knN d (m - 1).toNat (k2 ++ [t + (((1 + (q8 (q6 u) 3) : Int) : Rat) / ((1 + (q8 (q6 (q6 u)) 2) : Int) : Rat))], t + (((1 + (q8 (q6 u) 3) : Int) : Rat) / ((1 + (q8 (q6 (q6 u)) 2) : Int) : Rat)), q6 (q6 (q6 u))) = knR d inner s ∧ 0 ≤ m - 1 ∧ m - 1 ≤ 4 ∧ KnI (4 + 6 * (4 - (m - 1)).toNat) (10 - (m - 1).toNat) (k2 ++ [t + (((1 + (q8 (q6 u) 3) : Int) : Rat) / ((1 + (q8 (q6 (q6 u)) 2) : Int) : Rat))], t + (((1 + (q8 (q6 u) 3) : Int) : Rat) / ((1 + (q8 (q6 (q6 u)) 2) : Int) : Rat)), q6 (q6 (q6 u))) ∧ d + 1 ≤ ((k2 ++ [t + (((1 + (q8 (q6 u) 3) : Int) : Rat) / ((1 + (q8 (q6 (q6 u)) 2) : Int) : Rat))]).length : Int)) (by omega : (m - 1).toNat < (m).toNat))))))))))) (fun (h11 : ¬ (decide (t = (k2.getD (((k2.length : Int) - d).toNat) 0)) = true)) => I (by omega : k2.length = k2.length) (I ((fun x hx => by rw [List.mem_singleton.1 hx]; first | exact ((hJ.2.2.2.1.t.addT _).le (by omega)).bnd | exact (hJ.2.2.2.1.t.le (by omega)).bnd : ∀ x ∈ [t], Bnd .rat (.n 6) x) : ∀ x ∈ [t], Bnd .rat (.n 6) x) (I (vn rfl (by omega) : qo .sub .i64 m 1 (m - 1)) (I (by omega : Int.natAbs (m - 1) ≤ 5) (have hN := Ds (by omega) hJ (q0f h7 h9 (fun e => h11 (decide_eq_true e))); I (by (try simp only [List.length_append, List.length_cons, List.length_nil]) <;> omega : k2.length + [t].length = (k2 ++ [t]).length) (I (by (try simp only [List.length_append, List.length_cons, List.length_nil]) <;> omega : k2.length + [t].length ≤ 1048576) (And.intro (hN : knN d (m - 1).toNat (k2 ++ [t], t, q6 u) = knR d inner s ∧ 0 ≤ m - 1 ∧ m - 1 ≤ 4 ∧ KnI (4 + 6 * (4 - (m - 1)).toNat) (10 - (m - 1).toNat) (k2 ++ [t], t, q6 u) ∧ d + 1 ≤ ((k2 ++ [t]).length : Int)) (by omega : (m - 1).toNat < (m).toNat)))))))))))))))) (fun (h12 : ¬ (0 < m)) => I (by omega : k2.length = k2.length) (I (⟨by simp, by omega⟩ : k2 = k2 ++ List.replicate 0 (t + ((1 : Int) : Rat)) ∧ (0 : Int) ≤ d + 1) (fun (j : Nat) (k3 : List Rat) (hb13 : HB [.s 11 (.nat .i64) (.n 7), .g 8 90003 .rat (.n 6) 1048576] (j, k3)) (hL : k3 = k2 ++ List.replicate j (t + ((1 : Int) : Rat)) ∧ (j : Int) ≤ d + 1) => have hv16 := (show j ≤ 7 from hb13.1); have hv17 := (show k3.length ≤ 1048576 from hb13.2.1); have hkl3 := (show k3.length = k2.length + j by rw [hL.1, List.length_append, List.length_replicate]); And.intro (fun (h14 : (j : Int) ≤ d) => I (by omega : k3.length = k3.length) (I ((fun x hx => by rw [List.mem_singleton.1 hx]; exact (hJ.2.2.2.1.t.one.le (by omega)).bnd : ∀ x ∈ [t + ((1 : Int) : Rat)], Bnd .rat (.n 6) x) : ∀ x ∈ [t + ((1 : Int) : Rat)], Bnd .rat (.n 6) x) (I (show (j + 1) ≤ 7 by omega : Bnd (.nat .i64) (.n 7) (j + 1)) (I (by (try simp only [List.length_append, List.length_cons, List.length_nil]) <;> omega : k3.length + [t + ((1 : Int) : Rat)].length = (k3 ++ [t + ((1 : Int) : Rat)]).length) (I (by (try simp only [List.length_append, List.length_cons, List.length_nil]) <;> omega : k3.length + [t + ((1 : Int) : Rat)].length ≤ 1048576) (And.intro (⟨by rw [hL.1, List.replicate_succ', List.append_assoc], by omega⟩ : (k3 ++ [t + ((1 : Int) : Rat)]) = k2 ++ List.replicate (j + 1) (t + ((1 : Int) : Rat)) ∧ (j + 1 : Int) ≤ d + 1) (by omega : (d + 1).toNat - (j + 1) < (d + 1).toNat - j))))))) (fun (h15 : ¬ ((j : Int) ≤ d)) => I (by omega : k3.length = k3.length) (And.intro ((No hJ h12 hL h15).1 : u = vh d inner s) (((No hJ h12 hL h15).2 : k3 = jl d inner s))))))))))))))))⟩)
abbrev Px : CtrB Tryz.prog := FB.c Pz
abbrev Pu : FB := ⟨35, (.pr (.sl (.int .i64)) (.nat .i64)), (.p (.s 1048576 (.n 9223372036854775808)) (.n 1048576)), [(.int .i64), (.int .i64), .bool], [(.n 8), (.n 8), .u], fun s z => (fun (g : Int) (inner : Int) (f : Bool) => [(1 : Int) ≤ g, g ≤ (5 : Int), (0 : Int) ≤ inner, inner ≤ (4 : Int)]) z.1 z.2.1 z.2.2, fun tb b s z => (fun (g : Int) (inner : Int) (f : Bool) => .c (.agg [.dt qQ (.p (.n 6) (.p (.s 16 (.n 6)) (.s 16 (qU 5)))) (wP g inner f s)])) z.1 z.2.1 z.2.2, fun s z => (fun (g : Int) (inner : Int) (f : Bool) => zJ g inner f s) z.1 z.2.1 z.2.2, fun tb b => .p tb.l (.n (max tb.r.nb tb.l.len))⟩
theorem Pv : Pu.OK Tryz.prog := mkB' hmix 42 Tryz.func35 rfl rfl (by decide) [(18, .b Bf), (83, .b Px), (84, .b T6)] (fun _ => rfl) (fun _ _ => rfl) (fun _ _ _ _ => rfl) (fun (s : List Int × Nat) (g : Int) (inner : Int) (f : Bool) tb b hs hx hp => ⟨qT (HW s f (hp _ (by simp)) (hp _ (by simp)) (hp _ (by simp)) (hp _ (by simp))), Ps hs⟩) (fun (s : List Int × Nat) (g : Int) (inner : Int) (f : Bool) hs hx hp => by
 have hx0 : Int.natAbs g ≤ 8 := hx.1
 have hx1 : Int.natAbs inner ≤ 8 := hx.2.1
 have hp0 : (1 : Int) ≤ g := hp _ (List.mem_cons_self)
 have hp1 : g ≤ (5 : Int) := hp _ (List.mem_cons_of_mem _ (List.mem_cons_self))
 have hp2 : (0 : Int) ≤ inner := hp _ (List.mem_cons_of_mem _ (List.mem_cons_of_mem _ (List.mem_cons_self)))
 have hp3 : inner ≤ (4 : Int) := hp _ (List.mem_cons_of_mem _ (List.mem_cons_of_mem _ (List.mem_cons_of_mem _ (List.mem_cons_self))))
 exact ⟨.loop [.s 10 (.nat .i64) (.n 20), .ex (gboX 9 90001 [(.dt (.int .i64) (.n 9) (1 + (q8 s g))), (.dt (.sl .rat) (.s 16 (.n 6)) (jl (1 + (q8 s g)) inner (q6 s)))] [] (.pr (.pr .rat (.pr .rat .rat)) .rat) (.p (.p (.n 5) (.p (.n 5) (.n 5))) (.n 5)) 1048576), .r 100000 (.pr (.sl (.int .i64)) (.nat .i64)) (.p (.s 1048576 (.n 9223372036854775808)) (.n 1048576))] (fun ((i, l, u) : Nat × (List ((Rat × Rat × Rat) × Rat)) × List Int × Nat) => (l, u) = pN f (vh (1 + q8 s g) inner (q6 s)) i ∧ i ≤ cuN g inner s) (fun ((i, l, u) : Nat × (List ((Rat × Rat × Rat) × Rat)) × List Int × Nat) => cuN g inner s - i) (fun ((i, l, u) : Nat × (List ((Rat × Rat × Rat) × Rat)) × List Int × Nat) => .cond (.h 6 1 (.ext EV) (.h 6 5 (.mk (.im (.pr (.pr .rat (.pr .rat .rat)) .rat) (.p (.p (.n 5) (.p (.n 5) (.n 5))) (.n 5)))) (.nil))) (.pre 7 (.frz 90001 true []) (.nil))), kcast (by kernel_rfl) (I (by omega : (0 : Int) < g) (have hdr := (vv s (m := g) (by omega)); I (by omega : 1 ≤ 1 + (q8 s g)) (I (by omega : 1 + (q8 s g) ≤ 5) (I (by omega : 0 ≤ inner) (I (by omega : inner ≤ 4) (have hkb := (show (jl (1 + q8 s g) inner (q6 s)).length ≤ 16 from (E6 (q6 s) (by omega) hp2 hp3).1); have hcM := (Hi g inner s); I (rfl : ([(.dt (.int .i64) (.n 9) (1 + (q8 s g))), (.dt (.sl .rat) (.s 16 (.n 6)) (jl (1 + (q8 s g)) inner (q6 s)))] : List WA) = [(.dt (.int .i64) (.n 9) (1 + (q8 s g))), (.dt (.sl .rat) (.s 16 (.n 6)) (jl (1 + (q8 s g)) inner (q6 s)))]) (I (rfl : ([] : List WA) = []) (I (rfl : 0 = ([] : List ((Rat × Rat × Rat) × Rat)).length) (I (⟨rfl, Nat.zero_le _⟩ : (([] : List ((Rat × Rat × Rat) × Rat)), vh (1 + (q8 s g)) inner (q6 s)) = pN f (vh (1 + q8 s g) inner (q6 s)) 0 ∧ 0 ≤ cuN g inner s) (fun (i : Nat) (l : List ((Rat × Rat × Rat) × Rat)) (u : List Int × Nat) (hb1 : HB [.s 10 (.nat .i64) (.n 20), .ex (gboX 9 90001 [(.dt (.int .i64) (.n 9) (1 + (q8 s g))), (.dt (.sl .rat) (.s 16 (.n 6)) (jl (1 + (q8 s g)) inner (q6 s)))] [] (.pr (.pr .rat (.pr .rat .rat)) .rat) (.p (.p (.n 5) (.p (.n 5) (.n 5))) (.n 5)) 1048576), .r 100000 (.pr (.sl (.int .i64)) (.nat .i64)) (.p (.s 1048576 (.n 9223372036854775808)) (.n 1048576))] (i, l, u)) (hI : (l, u) = pN f (vh (1 + q8 s g) inner (q6 s)) i ∧ i ≤ cuN g inner s) => have hv4 := (show i ≤ 20 from hb1.1); have hv5 := (show l.length ≤ 1048576 from hb1.2.1.1.1); have hcN := (Hi g inner s); have hcl := (show l.length = i by have := IE f (vh (1 + q8 s g) inner (q6 s)) i; rw [← hI.1] at this; exact this); And.intro (fun (h2 : (i : Int) < ((((jl (1 + (q8 s g)) inner (q6 s)).length : Nat) : Int) - (1 + (q8 s g))) - 1) => I (by omega : l.length = l.length) (I (show (i + 1) ≤ 20 by omega : Bnd (.nat .i64) (.n 20) (i + 1)) (I (rfl : ([(.dt (.int .i64) (.n 9) (1 + (q8 s g))), (.dt (.sl .rat) (.s 16 (.n 6)) (jl (1 + (q8 s g)) inner (q6 s)))] : List WA) = [(.dt (.int .i64) (.n 9) (1 + (q8 s g))), (.dt (.sl .rat) (.s 16 (.n 6)) (jl (1 + (q8 s g)) inner (q6 s)))]) (I (rfl : ([] : List WA) = []) (I (by (try simp only [List.length_append, List.length_cons, List.length_nil]) <;> omega : l.length + [zN u f].length = (l ++ [zN u f]).length) (I (by (try simp only [List.length_append, List.length_cons, List.length_nil]) <;> omega : l.length + [zN u f].length ≤ 1048576) (And.intro (⟨pN_s hI.1, by omega⟩ : (l ++ [zN u f], A5 u) = pN f (vh (1 + q8 s g) inner (q6 s)) (i + 1) ∧ (i + 1) ≤ cuN g inner s) (by omega : cuN g inner s - (i + 1) < cuN g inner s - i)))))))) (fun (h3 : ¬ ((i : Int) < ((((jl (1 + (q8 s g)) inner (q6 s)).length : Nat) : Int) - (1 + (q8 s g))) - 1)) => I (by omega : l.length = l.length) (And.intro ((Mv hI h3).1 : u = zJ g inner f s) (((Mv hI h3).2 : (1 + (q8 s g), jl (1 + (q8 s g)) inner (q6 s), l) = wP g inner f s))))))))))))))⟩)
abbrev Pt : CtrB Tryz.prog := FB.c Pv
abbrev Lz : FI := ⟨142, [(.sl (.sl (.pr (.pr .rat (.pr .rat .rat)) .rat))), (.fn 102)], [(.s 1048576 (.s 1048576 (.p (.p (.n 1099511627776) (.p (.n 1099511627776) (.n 1099511627776))) (.n 1099511627776)))), .u], fun _ => [], fun b z => (fun (l : List (List ((Rat × Rat × Rat) × Rat))) (u : Unit) => .c (.one (.dt (.sl (.sl (.pr tV3 .rat))) (b0 b) l))) z.1 z.2⟩
theorem LA : Lz.OK Tryz.prog := mkF hmix 28 Tryz.func142 rfl rfl (by decide) [(102, .c ID)] (fun _ => rfl) (fun _ => rfl) (fun _ _ => rfl) (fun (l : List (List ((Rat × Rat × Rat) × Rat))) (u : Unit) b hx hp => q9 (Bnds.h2 hx).1 rfl) (fun (l : List (List ((Rat × Rat × Rat) × Rat))) (u : Unit) hx hp => by
 have hl0 : l.length ≤ 1048576 := hx.1.1
 exact ⟨.cond (.nil) (.h 3 2 (.mk (.arr (.sl (.pr (.pr .rat (.pr .rat .rat)) .rat)) (.s 1048576 (.p (.p (.n 1099511627776) (.p (.n 1099511627776) (.n 1099511627776))) (.n 1099511627776))))) (.loop [.s 15 (.nat .i64) (.n 1048576), .a 12 (.sl (.pr (.pr .rat (.pr .rat .rat)) .rat)) (.s 1048576 (.p (.p (.n 1099511627776) (.p (.n 1099511627776) (.n 1099511627776))) (.n 1099511627776)))] (fun ((i, out) : Nat × List (List ((Rat × Rat × Rat) × Rat))) => Cpy l out i) (fun ((i, out) : Nat × List (List ((Rat × Rat × Rat) × Rat))) => l.length - i) (fun ((i, out) : Nat × List (List ((Rat × Rat × Rat) × Rat))) => .cond (.nil) (.pre 999999 (.frz 12 true [4]) (.nil))))), kcast (by kernel_rfl) (And.intro (fun (h1 : l = []) => (by rw [h1] : [] = l)) (I (by omega : l.length = l.length) (I (Cpy.start _ : Cpy l (List.replicate l.length ([] : List ((Rat × Rat × Rat) × Rat))) 0) (fun (i : Nat) (out : List (List ((Rat × Rat × Rat) × Rat))) (hb3 : HB [.s 15 (.nat .i64) (.n 1048576), .a 12 (.sl (.pr (.pr .rat (.pr .rat .rat)) .rat)) (.s 1048576 (.p (.p (.n 1099511627776) (.p (.n 1099511627776) (.n 1099511627776))) (.n 1099511627776)))] (i, out)) (hI : Cpy l out i) => have hv6 := (show i ≤ 1048576 from hb3.1); have hIl := hI.hl; have hIi := hI.hi; And.intro (fun (h4 : i < l.length) => I (by omega : i < l.length) (I (by omega : i < l.length) (I (by omega : i < out.length) (I (show (i + 1) ≤ 1048576 by omega : Bnd (.nat .i64) (.n 1048576) (i + 1)) (And.intro (hI.step _ (by omega) : Cpy l (out.set i (l.getD i [])) (i + 1)) (by omega : l.length - (i + 1) < l.length - i)))))) (fun (h5 : ¬ (i < l.length)) => I (by omega : l.length = out.length) ((hI.fin (by omega) : out = l)))))))⟩)
abbrev Ly : Ctr Tryz.prog := FI.c LA
abbrev Ut : FI := ⟨86, [(.pr (.int .i64) (.pr (.int .i64) (.pr (.sl .rat) (.pr (.sl .rat) (.sl (.sl (.pr (.pr .rat (.pr .rat .rat)) .rat)))))))], [(.p (.n 1048576) (.p (.n 1048576) (.p (.s 1048576 (.n 1099511627776)) (.p (.s 1048576 (.n 1099511627776)) (.s 1048576 (.s 1048576 (.p (.p (.n 1099511627776) (.p (.n 1099511627776) (.n 1099511627776))) (.n 1099511627776))))))))], fun _ => [], fun b z => (fun (x : Int × Int × List Rat × List Rat × List (List ((Rat × Rat × Rat) × Rat))) => .c (.agg [.dt (.pr (.int .i64) (.pr (.int .i64) (.pr (.sl .rat) (.pr (.sl .rat) (.sl (.sl (.pr tV3 .rat))))))) (b0 b) x])) z⟩
theorem Uu : Ut.OK Tryz.prog := mkF hmix 17 Tryz.func86 rfl rfl (by decide) [(101, .c Kl), (142, .c Ly)] (fun _ => rfl) (fun _ => rfl) (fun _ _ => rfl) (fun (x : Int × Int × List Rat × List Rat × List (List ((Rat × Rat × Rat) × Rat))) b hx hp => qT (Bnds.h1 hx)) (fun (x : Int × Int × List Rat × List Rat × List (List ((Rat × Rat × Rat) × Rat))) hx hp => by
 exact ⟨.nil, kcast (by kernel_rfl) ((rfl : (x.1, x.2.1, x.2.2.1, x.2.2.2.1, x.2.2.2.2) = x))⟩)
abbrev Us : Ctr Tryz.prog := FI.c Uu
section
abbrev Surf := Int × Int × List Rat × List Rat × List (List Pole)
abbrev ju : Ty := .pr (.int .i64) (.pr (.int .i64) (.pr (.sl .rat) (.pr (.sl .rat) (.sl (.sl j3)))))
def rowV (v : V3) (p : Pole) : List Pole := [p, (addV p.1 v, p.2)]
def rowN (c : qN) (v : V3) : Nat → List (List Pole)
 | 0 => []
 | n + 1 => rowN c v n ++ [rowV v (c.2.2.getD n ((0, (0, 0)), 0))]
def qB (c : qN) (v : V3) : Surf := (c.1, 1, c.2.1, [0, 0, ((1 : Int) : Rat), ((1 : Int) : Rat)], rowN c v c.2.2.length)
def Fu : Surf := (0, 0, [], [], [])
def qh (c : qN) (v : V3) : Surf × Int := if chkC c ≠ 0 then (Fu, chkC c) else if v = (0, 0, 0) then (Fu, 3) else (qB c v, 0)
theorem va (c : qN) (v : V3) : ∀ n, (rowN c v n).length = n
 | 0 => rfl
 | n + 1 => by simp only [rowN, List.length_append, va c v n, List.length_cons, List.length_nil]
section
variable {c : qN} {v : V3} {l : List (List Pole)} {i : Nat}
theorem Oc (h : l = rowN c v i) : l ++ [[c.2.2.getD i ((0, (0, 0)), 0), (addV (c.2.2.getD i ((0, (0, 0)), 0)).1 v, (c.2.2.getD i ((0, (0, 0)), 0)).2)]] = rowN c v (i + 1) := by rw [h]; rfl
theorem Ht (h : chkC c ≠ 0) : Fu = (qh c v).1 ∧ chkC c = (qh c v).2 := by unfold qh; rw [if_pos h]; exact ⟨rfl, rfl⟩
theorem Hu (h : ¬ chkC c ≠ 0) (k : v = (0, 0, 0)) : Fu = (qh c v).1 ∧ 3 = (qh c v).2 := by unfold qh; rw [if_neg h, if_pos k]; exact ⟨rfl, rfl⟩
theorem Hv (h : ¬ chkC c ≠ 0) (k : ¬ v = (0, 0, 0)) (e : l = rowN c v i) (hi : ¬ i < c.2.2.length) (hl : i ≤ c.2.2.length) :
    (c.1, (1 : Int), c.2.1, [0, 0, ((1 : Int) : Rat), ((1 : Int) : Rat)], l) = (qh c v).1 ∧ 0 = (qh c v).2 := by
  unfold qh; rw [if_neg h, if_neg k, e, show i = c.2.2.length by omega]; exact ⟨rfl, rfl⟩
end
def pRow (s : Surf) (i : Nat) : List Pole := s.2.2.2.2.getD i []
def colN (s : Surf) (j : Nat) : Nat → List Pole
 | 0 => []
 | n + 1 => colN s j n ++ [(pRow s n).getD j ((0, (0, 0)), 0)]
def swN (s : Surf) : Nat → List (List Pole)
 | 0 => []
 | n + 1 => swN s n ++ [colN s n s.2.2.2.2.length]
def qC (s : Surf) : Surf := (s.2.1, s.1, s.2.2.2.1, s.2.2.1, swN s (pRow s 0).length)
theorem vH (s : Surf) (j : Nat) : ∀ n, (colN s j n).length = n
 | 0 => rfl
 | n + 1 => by simp only [colN, List.length_append, vH s j n, List.length_cons, List.length_nil]
theorem Gm (s : Surf) : ∀ n, (swN s n).length = n
 | 0 => rfl
 | n + 1 => by simp only [swN, List.length_append, Gm s n, List.length_cons, List.length_nil]
theorem WF {s : Surf} {i j : Nat} {l : List Pole} (h : l = colN s j i) : l ++ [(pRow s i).getD j ((0, (0, 0)), 0)] = colN s j (i + 1) := by rw [h]; rfl
theorem q0C {s : Surf} {i j : Nat} {l : List (List Pole)} {r : List Pole} (h : l = swN s j) (hr : r = colN s j i) (hi : ¬ i < s.2.2.2.2.length) (hl : i ≤ s.2.2.2.2.length) : l ++ [r] = swN s (j + 1) := by
 rw [h, hr, show i = s.2.2.2.2.length by omega]; rfl
theorem Rj {s : Surf} {j : Nat} {l : List (List Pole)} (h : l = swN s j) (hi : ¬ j < (pRow s 0).length) (hl : j ≤ (pRow s 0).length) : (s.2.1, s.1, s.2.2.2.1, s.2.2.1, l) = qC s := by
 unfold qC; rw [h, show j = (pRow s 0).length by omega]
abbrev bSfl : Bd := .p (.n 6) (.p (.n 6) (.p (.s 16 (.n 6)) (.p (.s 16 (.n 6)) (.s 16 (.s 16 (qU 12))))))
theorem d0_b (m : Nat) : Bnd j3 (qU m) ((0, (0, 0)), 0) := ⟨⟨qG _, qG _, qG _⟩, qG _⟩
theorem Fk {s : Surf} (h : Bnd ju bSfl s) (i : Nat) : Bnd (.sl j3) (.s 16 (qU 12)) (pRow s i) := by
 unfold pRow
 by_cases e : i < s.2.2.2.2.length
 ·rw [j1 e]; exact h.2.2.2.2.2 _ (List.getElem_mem e)
 ·rw [List.getD_eq_getElem?_getD, List.getElem?_eq_none (by omega)]; exact ⟨Nat.zero_le _, fun x hx => by cases hx⟩
theorem Ux {l : List Pole} {m : Nat} (h : ∀ p ∈ l, Bnd j3 (qU m) p) (j : Nat) : Bnd j3 (qU m) (l.getD j ((0, (0, 0)), 0)) := by
 by_cases e : j < l.length
 ·rw [j1 e]; exact h _ (List.getElem_mem e)
 ·rw [List.getD_eq_getElem?_getD, List.getElem?_eq_none (by omega)]; exact d0_b m
theorem HU {s : Surf} (h : Bnd ju bSfl s) (j : Nat) : ∀ n, ∀ p ∈ colN s j n, Bnd j3 (qU 12) p
 | 0, p, hp => by cases hp
 | n + 1, p, hp => by
  simp only [colN, List.mem_append, List.mem_singleton] at hp
  rcases hp with hp | hp
  ·exact HU h j n p hp
  ·rw [hp]; exact Ux (Fk h n).2 j
theorem Sq {s : Surf} (h : Bnd ju bSfl s) : ∀ n, ∀ r ∈ swN s n, Bnd (.sl j3) (.s 16 (qU 12)) r
 | 0, r, hr => by cases hr
 | n + 1, r, hr => by
  simp only [swN, List.mem_append, List.mem_singleton] at hr
  rcases hr with hr | hr
  ·exact Sq h n r hr
  ·rw [hr]; exact ⟨by rw [vH]; exact h.2.2.2.2.1, HU h n _⟩
theorem KG {s : Surf} (h : Bnd ju bSfl s) : Bnd ju bSfl (qC s) :=
 ⟨h.2.1, h.1, h.2.2.2.1, h.2.2.1, by show (swN s (pRow s 0).length).length ≤ 16; rw [Gm]; exact (Fk h 0).1, Sq h _⟩
theorem q0s {s : Surf} (h : Bnd ju bSfl s) (i : Nat) : Bnd qQ (.p (.n 6) (.p (.s 16 (.n 6)) (.s 16 (qU 12)))) (s.2.1, s.2.2.2.1, pRow s i) := ⟨h.2.1, h.2.2.2.1, Fk h i⟩
abbrev L0 : Bd := .p (.n 6) (.p (.n 1) (.p (.s 16 (.n 6)) (.p (.s 4 (.n 6)) (.s 16 (.s 2 (qU 12))))))
abbrev bCrv : Bd := .p (.n 6) (.p (.s 16 (.n 6)) (.s 16 (qU 5)))
theorem KF : Bnd ju L0 Fu := ⟨(by decide : Int.natAbs 0 ≤ 6), (by decide : Int.natAbs 0 ≤ 1), ⟨by decide, fun x hx => by cases hx⟩, ⟨by decide, fun x hx => by cases hx⟩, by decide, fun x hx => by cases hx⟩
theorem NS {p : Pole} (h : Bnd j3 (qU 5) p) : Bnd j3 (qU 12) p := ⟨⟨qg h.1.1 (by decide), qg h.1.2.1 (by decide), qg h.1.2.2 (by decide)⟩, qg h.2 (by decide)⟩
theorem Ye {p : Pole} {v : V3} (h : Bnd j3 (qU 5) p) (hv : Bnd tV3 (bV3 5) v) : Bnd (.sl j3) (.s 2 (qU 12)) (rowV v p) := by
 refine ⟨Nat.le_refl 2, fun x hx => ?_⟩
 unfold rowV at hx
 simp only [List.mem_cons, List.not_mem_nil, or_false] at hx
 rcases hx with rfl | rfl
 ·exact NS h
 ·have := wK (b := bV3 5) (c := bV3 5) h.1 hv
  exact ⟨⟨qg this.1 (by decide), qg this.2.1 (by decide), qg this.2.2 (by decide)⟩, qg h.2 (by decide)⟩
theorem IU {c : qN} {v : V3} (hc : ∀ p ∈ c.2.2, Bnd j3 (qU 5) p) (hv : Bnd tV3 (bV3 5) v) : ∀ n, n ≤ c.2.2.length → ∀ x ∈ rowN c v n, Bnd (.sl j3) (.s 2 (qU 12)) x
 | 0, _, x, h => by cases h
 | n + 1, hn, x, h => by
  simp only [rowN, List.mem_append, List.mem_singleton] at h
  rcases h with h | h
  ·exact IU hc hv n (by omega) x h
  ·rw [h, j1 (by omega)]; exact Ye (hc _ (List.getElem_mem (by omega))) hv
theorem E5 : Bnd (.sl .rat) (.s 4 (.n 6)) [0, 0, ((1 : Int) : Rat), ((1 : Int) : Rat)] := by
 refine ⟨Nat.le_refl 4, fun x hx => ?_⟩
 simp only [List.mem_cons, List.not_mem_nil, or_false] at hx
 rcases hx with rfl | rfl | rfl | rfl
 ·exact qG _
 ·exact qG _
 ·exact qg (z5 (b := 1) (by decide)) (by decide)
 ·exact qg (z5 (b := 1) (by decide)) (by decide)
theorem GW {c : qN} {v : V3} (hc : Bnd qQ bCrv c) (hv : Bnd tV3 (bV3 5) v) : (WV.tup [.agg [.dt ju L0 (qh c v).1], .one (.dt (.int .i64) (.n 8) (qh c v).2)]).ok := by
 have h1 : Bnd ju L0 (qh c v).1 ∧ ((qh c v).2).natAbs ≤ 8 := by
  unfold qh
  split
  ·exact ⟨KF, HN c⟩
  ·split
   ·exact ⟨KF, (by decide : Int.natAbs 3 ≤ 8)⟩
   ·refine ⟨⟨hc.1, (by decide : Int.natAbs 1 ≤ 1), hc.2.1, E5, ?_, IU hc.2.2.2 hv _ (Nat.le_refl _)⟩, (by decide : Int.natAbs 0 ≤ 8)⟩
    show (rowN c v c.2.2.length).length ≤ 16
    rw [va]; exact hc.2.2.1
 exact qd (qT h1.1) (qd (q9 h1.2 rfl) qR)
abbrev rowC (s : Surf) (i : Nat) : qN := (s.2.1, s.2.2.2.1, pRow s i)
def isoP (s : Surf) (t : Rat) : Nat → List Pole
 | 0 => []
 | n + 1 => isoP s t n ++ [ja (homV (rowC s n) t)]
theorem E3 (s : Surf) (t : Rat) : ∀ n, (isoP s t n).length = n
 | 0 => rfl
 | n + 1 => by simp only [isoP, List.length_append, E3 s t n, List.length_cons, List.length_nil]
def isoV (s : Surf) (t : Rat) : qN × Int := if ivE s.2.2.2.1 t ≠ 0 then ((0, [], []), ivE s.2.2.2.1 t) else ((s.1, s.2.2.1, isoP s t s.2.2.2.2.length), 0)
theorem X8 {s : Surf} {t : Rat} {i : Nat} {l : List Pole} (h : l = isoP s t i) : l ++ [ja (homV (rowC s i) t)] = isoP s t (i + 1) := by rw [h]; rfl
theorem Sh {s : Surf} {t : Rat} (h : ivE s.2.2.2.1 t ≠ 0) : (0, [], []) = (isoV s t).1 ∧ ivE s.2.2.2.1 t = (isoV s t).2 := by unfold isoV; rw [if_pos h]; exact ⟨rfl, rfl⟩
theorem Si {s : Surf} {t : Rat} {i : Nat} {l : List Pole} (h : ¬ ivE s.2.2.2.1 t ≠ 0) (e : l = isoP s t i) (hi : ¬ i < s.2.2.2.2.length) (hl : i ≤ s.2.2.2.2.length) :
    (s.1, s.2.2.1, l) = (isoV s t).1 ∧ 0 = (isoV s t).2 := by unfold isoV; rw [if_neg h, e, show i = s.2.2.2.2.length by omega]; exact ⟨rfl, rfl⟩
structure IsO (s : Surf) (t : Rat) : Prop where
 sb : Bnd ju bSfl s
 tb : Bnd .rat (.n 4096) t
 d0 : 0 ≤ s.2.1
 kl : s.2.1.toNat + 2 ≤ s.2.2.2.1.length
 ev : ∀ i, i < s.2.2.2.2.length → EvC (rowC s i) t
 pb : ∀ i, i < s.2.2.2.2.length → Bnd j3 (qU 200000) (ja (homV (rowC s i) t))
abbrev bIso : Bd := .p (.n 6) (.p (.s 16 (.n 6)) (.s 16 (qU 200000)))
theorem N4 {s : Surf} {t : Rat} (h : IsO s t) : ∀ n, n ≤ s.2.2.2.2.length → ∀ p ∈ isoP s t n, Bnd j3 (qU 200000) p
 | 0, _, p, hp => by cases hp
 | n + 1, hn, p, hp => by
  simp only [isoP, List.mem_append, List.mem_singleton] at hp
  rcases hp with hp | hp
  ·exact N4 h n (by omega) p hp
  ·rw [hp]; exact h.pb n (by omega)
theorem K7 {s : Surf} {t : Rat} (h : IsO s t) : (WV.tup [.agg [.dt qQ bIso (isoV s t).1], .one (.dt (.int .i64) (.n 7) (isoV s t).2)]).ok := by
 have h1 : Bnd qQ bIso (isoV s t).1 ∧ ((isoV s t).2).natAbs ≤ 7 := by
  unfold isoV
  split
  ·exact ⟨⟨(by decide : Int.natAbs 0 ≤ 6), ⟨Nat.zero_le _, fun x hx => by cases hx⟩, Nat.zero_le _, fun x hx => by cases hx⟩, Dr _ t⟩
  ·refine ⟨⟨h.sb.1, h.sb.2.2.1, ?_, N4 h _ (Nat.le_refl _)⟩, (by decide : Int.natAbs 0 ≤ 7)⟩
   show (isoP s t s.2.2.2.2.length).length ≤ 16
   rw [E3]; exact h.sb.2.2.2.2.1
 exact qd (qT h1.1) (qd (q9 h1.2 rfl) qR)
def sevV (s : Surf) (t u : Rat) : V3 × Int := if (isoV (qC s) t).2 ≠ 0 then ((0, 0, 0), (isoV (qC s) t).2) else (evV (isoV (qC s) t).1 u, ivE (isoV (qC s) t).1.2.1 u)
theorem X7 (s : Surf) (t : Rat) : ((isoV s t).2).natAbs ≤ 7 := by
 unfold isoV; split
 ·exact Dr _ t
 ·exact (by decide : Int.natAbs 0 ≤ 7)
theorem Yl {s : Surf} {t u : Rat} (h : EvC (isoV (qC s) t).1 u) : (WV.tup [.agg [.dt tV3 (bV3 67108868) (sevV s t u).1], .one (.dt (.int .i64) (.n 7) (sevV s t u).2)]).ok := by
 have h1 : Bnd tV3 (bV3 67108868) (sevV s t u).1 ∧ ((sevV s t u).2).natAbs ≤ 7 := by
  unfold sevV
  split
  ·exact ⟨⟨qG _, qG _, qG _⟩, X7 _ t⟩
  ·exact ⟨Se h, Dr _ u⟩
 exact qd (qT h1.1) (qd (q9 h1.2 rfl) qR)
theorem So {s : Surf} {t u : Rat} (h : (isoV (qC s) t).2 ≠ 0) : (0, 0, 0) = (sevV s t u).1 ∧ (isoV (qC s) t).2 = (sevV s t u).2 := by unfold sevV; rw [if_pos h]; exact ⟨rfl, rfl⟩
theorem Sp {s : Surf} {t u : Rat} (h : ¬ (isoV (qC s) t).2 ≠ 0) : evV (isoV (qC s) t).1 u = (sevV s t u).1 ∧ ivE (isoV (qC s) t).1.2.1 u = (sevV s t u).2 := by unfold sevV; rw [if_neg h]; exact ⟨rfl, rfl⟩
end
abbrev Ph : FI := ⟨37, [(.pr (.int .i64) (.pr (.sl .rat) (.sl (.pr (.pr .rat (.pr .rat .rat)) .rat)))), (.pr .rat (.pr .rat .rat))], [(.p (.n 6) (.p (.s 16 (.n 6)) (.s 16 (.p (.p (.n 5) (.p (.n 5) (.n 5))) (.n 5))))), (.p (.n 5) (.p (.n 5) (.n 5)))], fun z => (fun (c : Int × List Rat × List ((Rat × Rat × Rat) × Rat)) (v : Rat × Rat × Rat) => [Bnd qQ bCrv c, Bnd tV3 (bV3 5) v]) z.1 z.2, fun b z => (fun (c : Int × List Rat × List ((Rat × Rat × Rat) × Rat)) (v : Rat × Rat × Rat) => .tup [.agg [.dt ju (.p (.n 6) (.p (.n 1) (.p (.s 16 (.n 6)) (.p (.s 4 (.n 6)) (.s 16 (.s 2 (qU 12))))))) (qh c v).1], .one (.dt (.int .i64) (.n 8) (qh c v).2)]) z.1 z.2⟩
theorem Pi : Ph.OK Tryz.prog := mkF hmix 55 Tryz.func37 rfl rfl (by decide) [(46, .c Jd), (55, .c KI), (56, .c IQ), (85, .c N6), (86, .c Us)] (fun _ => rfl) (fun _ => rfl) (fun _ _ => rfl) (fun (c : Int × List Rat × List ((Rat × Rat × Rat) × Rat)) (v : Rat × Rat × Rat) b hx hp => GW (hp _ List.mem_cons_self) (hp _ (List.mem_cons_of_mem _ List.mem_cons_self))) (fun (c : Int × List Rat × List ((Rat × Rat × Rat) × Rat)) (v : Rat × Rat × Rat) hx hp => by
 have hcl : c.2.2.length ≤ 16 := hx.1.2.2.1
 exact ⟨.cond (.nil) (.cond (.nil) (.h 7 4 (.mk (.gro .rat (.n 6))) (.h 7 8 (.mk (.im .rat (.n 6))) (.loop [.s 34 (.nat .i64) (.n 1048576), .ex (gboX 8 90001 [(.dt (.int .i64) (.n 6) c.1), (.kn .i64 1), (.dt (.sl .rat) (.s 16 (.n 6)) c.2.1), (.dt (.sl .rat) (.s 4 (.n 6)) [0, 0, ((1 : Int) : Rat), ((1 : Int) : Rat)])] [] (.sl (.pr (.pr .rat (.pr .rat .rat)) .rat)) (.s 2 (.p (.p (.n 12) (.p (.n 12) (.n 12))) (.n 12))) 1048576)] (fun ((i, l) : Nat × List (List ((Rat × Rat × Rat) × Rat))) => l = rowN c v i ∧ i ≤ c.2.2.length) (fun ((i, l) : Nat × List (List ((Rat × Rat × Rat) × Rat))) => c.2.2.length - i) (fun ((i, l) : Nat × List (List ((Rat × Rat × Rat) × Rat))) => .cond (.h 11 1 (.ext EV) (.h 11 10 (.mk (.im (.pr (.pr .rat (.pr .rat .rat)) .rat) (.p (.p (.n 12) (.p (.n 12) (.n 12))) (.n 12)))) (.h 11 11 (.mk (.im (.sl (.pr (.pr .rat (.pr .rat .rat)) .rat)) (.s 2 (.p (.p (.n 12) (.p (.n 12) (.n 12))) (.n 12))))) (.nil)))) (.pre 13 (.frz 90001 true []) (.nil))))))), kcast (by kernel_rfl) (And.intro (fun (h1 : chkC c ≠ 0) => And.intro ((Ht h1).1 : (0, 0, [], [], []) = (qh c v).1) ((Ht h1).2 : chkC c = (qh c v).2)) (fun (h2 : ¬ (chkC c ≠ 0)) => And.intro (fun (h3 : decide (v = (0, 0, 0)) = true) => And.intro ((Hu h2 (yd h3)).1 : (0, 0, [], [], []) = (qh c v).1) ((Hu h2 (yd h3)).2 : 3 = (qh c v).2)) (fun (h4 : ¬ (decide (v = (0, 0, 0)) = true)) => I (rfl : ([(.dt (.int .i64) (.n 6) c.1), (.kn .i64 1), (.dt (.sl .rat) (.s 16 (.n 6)) c.2.1), (.dt (.sl .rat) (.s 4 (.n 6)) [0, 0, ((1 : Int) : Rat), ((1 : Int) : Rat)])] : List WA) = [(.dt (.int .i64) (.n 6) c.1), (.kn .i64 1), (.dt (.sl .rat) (.s 16 (.n 6)) c.2.1), (.dt (.sl .rat) (.s 4 (.n 6)) [0, 0, ((1 : Int) : Rat), ((1 : Int) : Rat)])]) (I (rfl : ([] : List WA) = []) (I (rfl : 0 = ([] : List (List ((Rat × Rat × Rat) × Rat))).length) (I (⟨rfl, Nat.zero_le _⟩ : ([] : List (List ((Rat × Rat × Rat) × Rat))) = rowN c v 0 ∧ 0 ≤ c.2.2.length) (fun (i : Nat) (l : List (List ((Rat × Rat × Rat) × Rat))) (hb5 : HB [.s 34 (.nat .i64) (.n 1048576), .ex (gboX 8 90001 [(.dt (.int .i64) (.n 6) c.1), (.kn .i64 1), (.dt (.sl .rat) (.s 16 (.n 6)) c.2.1), (.dt (.sl .rat) (.s 4 (.n 6)) [0, 0, ((1 : Int) : Rat), ((1 : Int) : Rat)])] [] (.sl (.pr (.pr .rat (.pr .rat .rat)) .rat)) (.s 2 (.p (.p (.n 12) (.p (.n 12) (.n 12))) (.n 12))) 1048576)] (i, l)) (hI : l = rowN c v i ∧ i ≤ c.2.2.length) => have hv8 := (show i ≤ 1048576 from hb5.1); have hv9 := (show l.length ≤ 1048576 from hb5.2.1.1); have hll := (show l.length = i by rw [hI.1, va]); And.intro (fun (h6 : i < c.2.2.length) => I (by omega : i < c.2.2.length) (I (by omega : l.length = l.length) (I (show (i + 1) ≤ 1048576 by omega : Bnd (.nat .i64) (.n 1048576) (i + 1)) (I (rfl : ([(.dt (.int .i64) (.n 6) c.1), (.kn .i64 1), (.dt (.sl .rat) (.s 16 (.n 6)) c.2.1), (.dt (.sl .rat) (.s 4 (.n 6)) [0, 0, ((1 : Int) : Rat), ((1 : Int) : Rat)])] : List WA) = [(.dt (.int .i64) (.n 6) c.1), (.kn .i64 1), (.dt (.sl .rat) (.s 16 (.n 6)) c.2.1), (.dt (.sl .rat) (.s 4 (.n 6)) [0, 0, ((1 : Int) : Rat), ((1 : Int) : Rat)])]) (I (rfl : ([] : List WA) = []) (I (by (try simp only [List.length_append, List.length_cons, List.length_nil]) <;> omega : l.length + [[c.2.2.getD i ((0, (0, 0)), 0), (addV ((c.2.2.getD i ((0, (0, 0)), 0)).1) v, (c.2.2.getD i ((0, (0, 0)), 0)).2)]].length = (l ++ [[c.2.2.getD i ((0, (0, 0)), 0), (addV ((c.2.2.getD i ((0, (0, 0)), 0)).1) v, (c.2.2.getD i ((0, (0, 0)), 0)).2)]]).length) (I (by (try simp only [List.length_append, List.length_cons, List.length_nil]) <;> omega : l.length + [[c.2.2.getD i ((0, (0, 0)), 0), (addV ((c.2.2.getD i ((0, (0, 0)), 0)).1) v, (c.2.2.getD i ((0, (0, 0)), 0)).2)]].length ≤ 1048576) (And.intro (⟨Oc hI.1, by omega⟩ : l ++ [[c.2.2.getD i ((0, (0, 0)), 0), (addV ((c.2.2.getD i ((0, (0, 0)), 0)).1) v, (c.2.2.getD i ((0, (0, 0)), 0)).2)]] = rowN c v (i + 1) ∧ (i + 1) ≤ c.2.2.length) (by omega : c.2.2.length - (i + 1) < c.2.2.length - i))))))))) (fun (h7 : ¬ (i < c.2.2.length)) => I (by omega : l.length = l.length) (And.intro ((Hv h2 (yd' h4) hI.1 h7 hI.2).1 : (c.1, 1, c.2.1, [0, 0, ((1 : Int) : Rat), ((1 : Int) : Rat)], l) = (qh c v).1) ((Hv h2 (yd' h4) hI.1 h7 hI.2).2 : 0 = (qh c v).2))))))))))⟩)
abbrev Pg : Ctr Tryz.prog := FI.c Pi
abbrev QT : FI := ⟨38, [(.pr (.int .i64) (.pr (.sl .rat) (.sl (.pr (.pr .rat (.pr .rat .rat)) .rat)))), (.pr .rat (.pr .rat .rat))], [(.p (.n 6) (.p (.s 16 (.n 6)) (.s 16 (.p (.p (.n 5) (.p (.n 5) (.n 5))) (.n 5))))), (.p (.n 5) (.p (.n 5) (.n 5)))], fun z => (fun (c : Int × List Rat × List ((Rat × Rat × Rat) × Rat)) (v : Rat × Rat × Rat) => [Bnd qQ bCrv c, Bnd tV3 (bV3 5) v]) z.1 z.2, fun b z => (fun (c : Int × List Rat × List ((Rat × Rat × Rat) × Rat)) (v : Rat × Rat × Rat) => .tup [.agg [.dt ju (.p (.n 6) (.p (.n 1) (.p (.s 16 (.n 6)) (.p (.s 4 (.n 6)) (.s 16 (.s 2 (qU 12))))))) (qh c v).1], .one (.dt (.int .i64) (.n 8) (qh c v).2)]) z.1 z.2⟩
theorem QU : QT.OK Tryz.prog := mkF hmix 59 Tryz.func38 rfl rfl (by decide) [(19, .c Pl), (26, .c KJ), (27, .c Rx), (31, .c wY)] (fun _ => rfl) (fun _ => rfl) (fun _ _ => rfl) (fun (c : Int × List Rat × List ((Rat × Rat × Rat) × Rat)) (v : Rat × Rat × Rat) b hx hp => GW (hp _ List.mem_cons_self) (hp _ (List.mem_cons_of_mem _ List.mem_cons_self))) (fun (c : Int × List Rat × List ((Rat × Rat × Rat) × Rat)) (v : Rat × Rat × Rat) hx hp => by
 have hcl : c.2.2.length ≤ 16 := hx.1.2.2.1
 exact ⟨.cond (.nil) (.cond (.nil) (.h 7 4 (.mk (.gro .rat (.n 6))) (.h 7 9 (.mk (.im .rat (.n 6))) (.loop [.s 9 (.nat .i64) (.n 1048576), .ex (gboX 8 90001 [(.dt (.int .i64) (.n 6) c.1), (.kn .i64 1), (.gs 25 c.2.1.length 3 16), (.dt (.sl .rat) (.s 4 (.n 6)) [0, 0, ((1 : Int) : Rat), ((1 : Int) : Rat)])] [] (.sl (.pr (.pr .rat (.pr .rat .rat)) .rat)) (.s 2 (.p (.p (.n 12) (.p (.n 12) (.n 12))) (.n 12))) 1048576)] (fun ((i, l) : Nat × List (List ((Rat × Rat × Rat) × Rat))) => l = rowN c v i ∧ i ≤ c.2.2.length) (fun ((i, l) : Nat × List (List ((Rat × Rat × Rat) × Rat))) => c.2.2.length - i) (fun ((i, l) : Nat × List (List ((Rat × Rat × Rat) × Rat))) => .cond (.h 12 1 (.ext EV) (.h 12 10 (.mk (.im (.pr (.pr .rat (.pr .rat .rat)) .rat) (.p (.p (.n 12) (.p (.n 12) (.n 12))) (.n 12)))) (.h 12 11 (.mk (.im (.sl (.pr (.pr .rat (.pr .rat .rat)) .rat)) (.s 2 (.p (.p (.n 12) (.p (.n 12) (.n 12))) (.n 12))))) (.nil)))) (.pre 13 (.frz 90001 true []) (.pre 999999 (.frz 25 true [4, 5]) (.nil)))))))), kcast (by kernel_rfl) (And.intro (fun (h1 : chkC c ≠ 0) => And.intro ((Ht h1).1 : (0, 0, [], [], []) = (qh c v).1) ((Ht h1).2 : chkC c = (qh c v).2)) (fun (h2 : ¬ (chkC c ≠ 0)) => And.intro (fun (h3 : decide (v = (0, 0, 0)) = true) => And.intro ((Hu h2 (yd h3)).1 : (0, 0, [], [], []) = (qh c v).1) ((Hu h2 (yd h3)).2 : 3 = (qh c v).2)) (fun (h4 : ¬ (decide (v = (0, 0, 0)) = true)) => I (rfl : ([(.dt (.int .i64) (.n 6) c.1), (.kn .i64 1), (.gs 25 c.2.1.length 3 16), (.dt (.sl .rat) (.s 4 (.n 6)) [0, 0, ((1 : Int) : Rat), ((1 : Int) : Rat)])] : List WA) = [(.dt (.int .i64) (.n 6) c.1), (.kn .i64 1), (.gs 25 c.2.1.length 3 16), (.dt (.sl .rat) (.s 4 (.n 6)) [0, 0, ((1 : Int) : Rat), ((1 : Int) : Rat)])]) (I (rfl : ([] : List WA) = []) (I (rfl : 0 = ([] : List (List ((Rat × Rat × Rat) × Rat))).length) (I (⟨rfl, Nat.zero_le _⟩ : ([] : List (List ((Rat × Rat × Rat) × Rat))) = rowN c v 0 ∧ 0 ≤ c.2.2.length) (fun (i : Nat) (l : List (List ((Rat × Rat × Rat) × Rat))) (hb5 : HB [.s 9 (.nat .i64) (.n 1048576), .ex (gboX 8 90001 [(.dt (.int .i64) (.n 6) c.1), (.kn .i64 1), (.gs 25 c.2.1.length 3 16), (.dt (.sl .rat) (.s 4 (.n 6)) [0, 0, ((1 : Int) : Rat), ((1 : Int) : Rat)])] [] (.sl (.pr (.pr .rat (.pr .rat .rat)) .rat)) (.s 2 (.p (.p (.n 12) (.p (.n 12) (.n 12))) (.n 12))) 1048576)] (i, l)) (hI : l = rowN c v i ∧ i ≤ c.2.2.length) => have hv8 := (show i ≤ 1048576 from hb5.1); have hv9 := (show l.length ≤ 1048576 from hb5.2.1.1); have hll := (show l.length = i by rw [hI.1, va]); And.intro (fun (h6 : i < c.2.2.length) => I (by omega : i < c.2.2.length) (I (by omega : l.length = l.length) (I (show (i + 1) ≤ 1048576 by omega : Bnd (.nat .i64) (.n 1048576) (i + 1)) (I (rfl : ([(.dt (.int .i64) (.n 6) c.1), (.kn .i64 1), (.gs 25 c.2.1.length 3 16), (.dt (.sl .rat) (.s 4 (.n 6)) [0, 0, ((1 : Int) : Rat), ((1 : Int) : Rat)])] : List WA) = [(.dt (.int .i64) (.n 6) c.1), (.kn .i64 1), (.gs 25 c.2.1.length 3 16), (.dt (.sl .rat) (.s 4 (.n 6)) [0, 0, ((1 : Int) : Rat), ((1 : Int) : Rat)])]) (I (rfl : ([] : List WA) = []) (I (by (try simp only [List.length_append, List.length_cons, List.length_nil]) <;> omega : l.length + [[c.2.2.getD i ((0, (0, 0)), 0), (addV ((c.2.2.getD i ((0, (0, 0)), 0)).1) v, (c.2.2.getD i ((0, (0, 0)), 0)).2)]].length = (l ++ [[c.2.2.getD i ((0, (0, 0)), 0), (addV ((c.2.2.getD i ((0, (0, 0)), 0)).1) v, (c.2.2.getD i ((0, (0, 0)), 0)).2)]]).length) (I (by (try simp only [List.length_append, List.length_cons, List.length_nil]) <;> omega : l.length + [[c.2.2.getD i ((0, (0, 0)), 0), (addV ((c.2.2.getD i ((0, (0, 0)), 0)).1) v, (c.2.2.getD i ((0, (0, 0)), 0)).2)]].length ≤ 1048576) (And.intro (⟨Oc hI.1, by omega⟩ : l ++ [[c.2.2.getD i ((0, (0, 0)), 0), (addV ((c.2.2.getD i ((0, (0, 0)), 0)).1) v, (c.2.2.getD i ((0, (0, 0)), 0)).2)]] = rowN c v (i + 1) ∧ (i + 1) ≤ c.2.2.length) (by omega : c.2.2.length - (i + 1) < c.2.2.length - i))))))))) (fun (h7 : ¬ (i < c.2.2.length)) => I (by omega : l.length = l.length) (I (by omega : c.2.1.length = c.2.1.length) (I (by omega : c.2.1.length = c.2.1.length) (And.intro ((Hv h2 (yd' h4) hI.1 h7 hI.2).1 : (c.1, 1, c.2.1, [0, 0, ((1 : Int) : Rat), ((1 : Int) : Rat)], l) = (qh c v).1) ((Hv h2 (yd' h4) hI.1 h7 hI.2).2 : 0 = (qh c v).2))))))))))))⟩)
abbrev QS : Ctr Tryz.prog := FI.c QU
abbrev Vn : FI := ⟨39, [(.pr (.int .i64) (.pr (.int .i64) (.pr (.sl .rat) (.pr (.sl .rat) (.sl (.sl (.pr (.pr .rat (.pr .rat .rat)) .rat))))))), (.pr (.int .i64) (.pr (.int .i64) (.pr (.sl .rat) (.pr (.sl .rat) (.sl (.sl (.pr (.pr .rat (.pr .rat .rat)) .rat)))))))], [(.p (.n 6) (.p (.n 1) (.p (.s 16 (.n 6)) (.p (.s 4 (.n 6)) (.s 16 (.s 2 (.p (.p (.n 12) (.p (.n 12) (.n 12))) (.n 12)))))))), (.p (.n 6) (.p (.n 1) (.p (.s 16 (.n 6)) (.p (.s 4 (.n 6)) (.s 16 (.s 2 (.p (.p (.n 12) (.p (.n 12) (.n 12))) (.n 12))))))))], fun z => (fun (x : Int × Int × List Rat × List Rat × List (List ((Rat × Rat × Rat) × Rat))) (y : Int × Int × List Rat × List Rat × List (List ((Rat × Rat × Rat) × Rat))) => [x = y]) z.1 z.2, fun b z => .c (.one (.dt .bool .u true))⟩
theorem Vo : Vn.OK Tryz.prog := mkF hmix 62 Tryz.func39 rfl rfl (by decide) [(64, .c RO), (65, .c RR)] (fun _ => rfl) (fun _ => rfl) (fun _ _ => rfl) (fun (x : Int × Int × List Rat × List Rat × List (List ((Rat × Rat × Rat) × Rat))) (y : Int × Int × List Rat × List Rat × List (List ((Rat × Rat × Rat) × Rat))) b hx hp => q9 trivial rfl) (fun (x : Int × Int × List Rat × List Rat × List (List ((Rat × Rat × Rat) × Rat))) (y : Int × Int × List Rat × List Rat × List (List ((Rat × Rat × Rat) × Rat))) hx hp => by
 have hp0 : x = y := hp _ (List.mem_cons_self)
 have hxl : x.2.2.2.2.length ≤ 16 := hx.1.2.2.2.2.1
 exact ⟨.cond (.dead) (.cond (.dead) (.cond (.dead) (.cond (.dead) (.cond (.dead) (.loop [.s 5 (.nat .i64) (.n 1048576)] (fun (i : Nat) => i ≤ x.2.2.2.2.length) (fun (i : Nat) => x.2.2.2.2.length - i) (fun (i : Nat) => .cond (.cond (.dead) (.nil)) (.nil))))))), kcast (by kernel_rfl) (And.intro (fun (h1 : x.1 ≠ y.1) => (h1 (by rw [hp0]) : False)) (fun (h2 : ¬ (x.1 ≠ y.1)) => And.intro (fun (h3 : x.2.1 ≠ y.2.1) => (h3 (by rw [hp0]) : False)) (fun (h4 : ¬ (x.2.1 ≠ y.2.1)) => And.intro (fun (h5 : (!(decide (x.2.2.1 = y.2.2.1))) = true) => (nd h5 (by rw [hp0]) : False)) (fun (h6 : ¬ ((!(decide (x.2.2.1 = y.2.2.1))) = true)) => And.intro (fun (h7 : (!(decide (x.2.2.2.1 = y.2.2.2.1))) = true) => (nd h7 (by rw [hp0]) : False)) (fun (h8 : ¬ ((!(decide (x.2.2.2.1 = y.2.2.2.1))) = true)) => And.intro (fun (h9 : x.2.2.2.2.length ≠ y.2.2.2.2.length) => (h9 (by rw [hp0]) : False)) (fun (h10 : ¬ (x.2.2.2.2.length ≠ y.2.2.2.2.length)) => I (Nat.zero_le _ : 0 ≤ x.2.2.2.2.length) (fun (i : Nat) (hb11 : HB [.s 5 (.nat .i64) (.n 1048576)] i) (hI : i ≤ x.2.2.2.2.length) => have hv16 := (show i ≤ 1048576 from hb11); have hle := (show x.2.2.2.2.length = y.2.2.2.2.length by rw [hp0]); And.intro (fun (h12 : i < x.2.2.2.2.length) => I (by omega : i < x.2.2.2.2.length) (I (by omega : i < y.2.2.2.2.length) (And.intro (fun (h13 : (!(decide ((x.2.2.2.2.getD i []) = (y.2.2.2.2.getD i [])))) = true) => (nd h13 (by rw [hp0]) : False)) (fun (h14 : ¬ ((!(decide ((x.2.2.2.2.getD i []) = (y.2.2.2.2.getD i [])))) = true)) => I (show (i + 1) ≤ 1048576 by omega : Bnd (.nat .i64) (.n 1048576) (i + 1)) (And.intro (by omega : (i + 1) ≤ x.2.2.2.2.length) (by omega : x.2.2.2.2.length - (i + 1) < x.2.2.2.2.length - i)))))) (fun (h15 : ¬ (i < x.2.2.2.2.length)) => (Eq.refl true)))))))))⟩)
abbrev Vm : Ctr Tryz.prog := FI.c Vo
abbrev Vq : FI := ⟨144, [(.pr (.int .i64) (.pr (.int .i64) (.pr (.sl .rat) (.pr (.sl .rat) (.sl (.sl (.pr (.pr .rat (.pr .rat .rat)) .rat)))))))], [(.p (.n 6) (.p (.n 6) (.p (.s 16 (.n 6)) (.p (.s 16 (.n 6)) (.s 16 (.s 16 (.p (.p (.n 12) (.p (.n 12) (.n 12))) (.n 12))))))))], fun z => (fun (x : Int × Int × List Rat × List Rat × List (List ((Rat × Rat × Rat) × Rat))) => [Bnd ju bSfl x, 0 < x.2.2.2.2.length, ∀ i, i < x.2.2.2.2.length → (pRow x i).length = (pRow x 0).length]) z, fun b z => (fun (x : Int × Int × List Rat × List Rat × List (List ((Rat × Rat × Rat) × Rat))) => .c (.agg [.dt ju (.p (.n 6) (.p (.n 6) (.p (.s 16 (.n 6)) (.p (.s 16 (.n 6)) (.s 16 (.s 16 (qU 12))))))) (qC x)])) z⟩
theorem Vr : Vq.OK Tryz.prog := mkF hmix 54 Tryz.func144 rfl rfl (by decide) [] (fun _ => rfl) (fun _ => rfl) (fun _ _ => rfl) (fun (x : Int × Int × List Rat × List Rat × List (List ((Rat × Rat × Rat) × Rat))) b hx hp => qT (KG (hp _ (by simp)))) (fun (x : Int × Int × List Rat × List Rat × List (List ((Rat × Rat × Rat) × Rat))) hx hp => by
 have hp1 : 0 < x.2.2.2.2.length := hp _ (List.mem_cons_of_mem _ (List.mem_cons_self))
 have hp2 : ∀ i, i < x.2.2.2.2.length → (pRow x i).length = (pRow x 0).length := hp _ (List.mem_cons_of_mem _ (List.mem_cons_of_mem _ (List.mem_cons_self)))
 have hxl : x.2.2.2.2.length ≤ 16 := hx.2.2.2.2.1
 exact ⟨.h 1 4 (.mk (.gro .rat (.n 6))) (.h 1 8 (.mk (.gro .rat (.n 6))) (.pre 2 (.frz 14 true []) (.pre 2 (.frz 18 true []) (.loop [.s 4 (.nat .i64) (.n 1048576), .ex (gboX 3 90002 [(.dt (.int .i64) (.n 6) x.2.1), (.dt (.int .i64) (.n 6) x.1), (.dt (.sl .rat) (.s 16 (.n 6)) (([] : List Rat) ++ x.2.2.2.1)), (.dt (.sl .rat) (.s 16 (.n 6)) (([] : List Rat) ++ x.2.2.1))] [] (.sl (.pr (.pr .rat (.pr .rat .rat)) .rat)) (.s 16 (.p (.p (.n 12) (.p (.n 12) (.n 12))) (.n 12))) 1048576)] (fun ((j, l) : Nat × List (List ((Rat × Rat × Rat) × Rat))) => l = swN x j ∧ j ≤ (pRow x 0).length) (fun ((j, l) : Nat × List (List ((Rat × Rat × Rat) × Rat))) => (pRow x 0).length - j) (fun ((j, l) : Nat × List (List ((Rat × Rat × Rat) × Rat))) => .cond (.loop [.s 6 (.nat .i64) (.n 1048576), .g 5 90001 (.pr (.pr .rat (.pr .rat .rat)) .rat) (.p (.p (.n 12) (.p (.n 12) (.n 12))) (.n 12)) 16] (fun ((i, r) : Nat × List ((Rat × Rat × Rat) × Rat)) => r = colN x j i ∧ i ≤ x.2.2.2.2.length) (fun ((i, r) : Nat × List ((Rat × Rat × Rat) × Rat)) => x.2.2.2.2.length - i) (fun ((i, r) : Nat × List ((Rat × Rat × Rat) × Rat)) => .cond (.h 9 9 (.mk (.im (.pr (.pr .rat (.pr .rat .rat)) .rat) (.p (.p (.n 12) (.p (.n 12) (.n 12))) (.n 12)))) (.nil)) (.pre 10 (.frz 90001 true [5]) (.h 10 1 (.ext EV) (.h 10 3 (.mk (.im (.sl (.pr (.pr .rat (.pr .rat .rat)) .rat)) (.s 16 (.p (.p (.n 12) (.p (.n 12) (.n 12))) (.n 12))))) (.nil)))))) (.pre 11 (.frz 90002 true []) (.nil))))))), kcast (by kernel_rfl) (I (rfl : 0 = ([] : List Rat).length) (I (rfl : 0 = ([] : List Rat).length) (I (by (try simp only [List.length_append, List.length_cons, List.length_nil]) <;> omega : 0 + x.2.2.2.1.length = (([] : List Rat) ++ x.2.2.2.1).length) (I (by (try simp only [List.length_append, List.length_cons, List.length_nil]) <;> omega : 0 + x.2.2.1.length = (([] : List Rat) ++ x.2.2.1).length) (I (rfl : ([(.dt (.int .i64) (.n 6) x.2.1), (.dt (.int .i64) (.n 6) x.1), (.dt (.sl .rat) (.s 16 (.n 6)) (([] : List Rat) ++ x.2.2.2.1)), (.dt (.sl .rat) (.s 16 (.n 6)) (([] : List Rat) ++ x.2.2.1))] : List WA) = [(.dt (.int .i64) (.n 6) x.2.1), (.dt (.int .i64) (.n 6) x.1), (.dt (.sl .rat) (.s 16 (.n 6)) (([] : List Rat) ++ x.2.2.2.1)), (.dt (.sl .rat) (.s 16 (.n 6)) (([] : List Rat) ++ x.2.2.1))]) (I (rfl : ([] : List WA) = []) (I (rfl : 0 = ([] : List (List ((Rat × Rat × Rat) × Rat))).length) (I (⟨rfl, Nat.zero_le _⟩ : ([] : List (List ((Rat × Rat × Rat) × Rat))) = swN x 0 ∧ 0 ≤ (pRow x 0).length) (fun (j : Nat) (l : List (List ((Rat × Rat × Rat) × Rat))) (hb1 : HB [.s 4 (.nat .i64) (.n 1048576), .ex (gboX 3 90002 [(.dt (.int .i64) (.n 6) x.2.1), (.dt (.int .i64) (.n 6) x.1), (.dt (.sl .rat) (.s 16 (.n 6)) (([] : List Rat) ++ x.2.2.2.1)), (.dt (.sl .rat) (.s 16 (.n 6)) (([] : List Rat) ++ x.2.2.1))] [] (.sl (.pr (.pr .rat (.pr .rat .rat)) .rat)) (.s 16 (.p (.p (.n 12) (.p (.n 12) (.n 12))) (.n 12))) 1048576)] (j, l)) (hI : l = swN x j ∧ j ≤ (pRow x 0).length) => have hv9 := (show j ≤ 1048576 from hb1.1); have hv10 := (show l.length ≤ 1048576 from hb1.2.1.1); have hq0 := (show (pRow x 0).length = (x.2.2.2.2.getD 0 []).length from rfl); have hq1 := (show (x.2.2.2.2.getD 0 []).length ≤ 16 from (Fk hx 0).1); have hl0 := (show l.length = j by rw [hI.1, Gm]); I (by omega : 0 < x.2.2.2.2.length) (And.intro (fun (h2 : j < (x.2.2.2.2.getD 0 []).length) => I (rfl : 0 = ([] : List ((Rat × Rat × Rat) × Rat)).length) (I (⟨rfl, Nat.zero_le _⟩ : ([] : List ((Rat × Rat × Rat) × Rat)) = colN x j 0 ∧ 0 ≤ x.2.2.2.2.length) (fun (i : Nat) (r : List ((Rat × Rat × Rat) × Rat)) (hb3 : HB [.s 6 (.nat .i64) (.n 1048576), .g 5 90001 (.pr (.pr .rat (.pr .rat .rat)) .rat) (.p (.p (.n 12) (.p (.n 12) (.n 12))) (.n 12)) 16] (i, r)) (hJ : r = colN x j i ∧ i ≤ x.2.2.2.2.length) => have hv6 := (show i ≤ 1048576 from hb3.1); have hv7 := (show r.length ≤ 16 from hb3.2.1); have hr0 := (show r.length = i by rw [hJ.1, vH]); have hrw := (show i < x.2.2.2.2.length → (x.2.2.2.2.getD i []).length = (x.2.2.2.2.getD 0 []).length from hp2 i); And.intro (fun (h4 : i < x.2.2.2.2.length) => I (by omega : i < x.2.2.2.2.length) (I (by (try simp only [List.length_append, List.length_cons, List.length_nil]) <;> omega : j < (x.2.2.2.2.getD i []).length) (I (by omega : r.length = r.length) (I (show (i + 1) ≤ 1048576 by omega : Bnd (.nat .i64) (.n 1048576) (i + 1)) (I (by (try simp only [List.length_append, List.length_cons, List.length_nil]) <;> omega : r.length + [(x.2.2.2.2.getD i []).getD j ((0, (0, 0)), 0)].length = (r ++ [(x.2.2.2.2.getD i []).getD j ((0, (0, 0)), 0)]).length) (I (by (try simp only [List.length_append, List.length_cons, List.length_nil]) <;> omega : r.length + [(x.2.2.2.2.getD i []).getD j ((0, (0, 0)), 0)].length ≤ 16) (And.intro (⟨WF hJ.1, by omega⟩ : r ++ [(x.2.2.2.2.getD i []).getD j ((0, (0, 0)), 0)] = colN x j (i + 1) ∧ (i + 1) ≤ x.2.2.2.2.length) (by omega : x.2.2.2.2.length - (i + 1) < x.2.2.2.2.length - i)))))))) (fun (h5 : ¬ (i < x.2.2.2.2.length)) => I (by omega : r.length = r.length) (I (by omega : l.length = l.length) (I (show (j + 1) ≤ 1048576 by omega : Bnd (.nat .i64) (.n 1048576) (j + 1)) (I (rfl : ([(.dt (.int .i64) (.n 6) x.2.1), (.dt (.int .i64) (.n 6) x.1), (.dt (.sl .rat) (.s 16 (.n 6)) (([] : List Rat) ++ x.2.2.2.1)), (.dt (.sl .rat) (.s 16 (.n 6)) (([] : List Rat) ++ x.2.2.1))] : List WA) = [(.dt (.int .i64) (.n 6) x.2.1), (.dt (.int .i64) (.n 6) x.1), (.dt (.sl .rat) (.s 16 (.n 6)) (([] : List Rat) ++ x.2.2.2.1)), (.dt (.sl .rat) (.s 16 (.n 6)) (([] : List Rat) ++ x.2.2.1))]) (I (rfl : ([] : List WA) = []) (I (by (try simp only [List.length_append, List.length_cons, List.length_nil]) <;> omega : l.length + [r].length = (l ++ [r]).length) (I (by (try simp only [List.length_append, List.length_cons, List.length_nil]) <;> omega : l.length + [r].length ≤ 1048576) (And.intro (⟨q0C hI.1 hJ.1 h5 hJ.2, by omega⟩ : l ++ [r] = swN x (j + 1) ∧ (j + 1) ≤ (pRow x 0).length) (by omega : (pRow x 0).length - (j + 1) < (pRow x 0).length - j)))))))))))) (fun (h8 : ¬ (j < (x.2.2.2.2.getD 0 []).length)) => I (by omega : l.length = l.length) ((Rj hI.1 h8 hI.2 : (x.2.1, x.1, ([] : List Rat) ++ x.2.2.2.1, ([] : List Rat) ++ x.2.2.1, l) = qC x)))))))))))))⟩)
abbrev Vp : Ctr Tryz.prog := FI.c Vr
abbrev YC : FI := ⟨189, [(.pr (.int .i64) (.pr (.int .i64) (.pr (.sl .rat) (.pr (.sl .rat) (.sl (.sl (.pr (.pr .rat (.pr .rat .rat)) .rat))))))), (.nat .i64)], [(.p (.n 6) (.p (.n 6) (.p (.s 16 (.n 6)) (.p (.s 16 (.n 6)) (.s 16 (.s 16 (.p (.p (.n 12) (.p (.n 12) (.n 12))) (.n 12)))))))), (.n 1048576)], fun z => (fun (x : Int × Int × List Rat × List Rat × List (List ((Rat × Rat × Rat) × Rat))) (i : Nat) => [Bnd ju bSfl x, i < x.2.2.2.2.length]) z.1 z.2, fun b z => (fun (x : Int × Int × List Rat × List Rat × List (List ((Rat × Rat × Rat) × Rat))) (i : Nat) => .c (.agg [.dt qQ (.p (.n 6) (.p (.s 16 (.n 6)) (.s 16 (qU 12)))) (x.2.1, x.2.2.2.1, pRow x i)])) z.1 z.2⟩
theorem YD : YC.OK Tryz.prog := mkF hmix 15 Tryz.func189 rfl rfl (by decide) [] (fun _ => rfl) (fun _ => rfl) (fun _ _ => rfl) (fun (x : Int × Int × List Rat × List Rat × List (List ((Rat × Rat × Rat) × Rat))) (i : Nat) b hx hp => qT (q0s (hp _ List.mem_cons_self) i)) (fun (x : Int × Int × List Rat × List Rat × List (List ((Rat × Rat × Rat) × Rat))) (i : Nat) hx hp => by
 have hx1 : i ≤ 1048576 := hx.2
 have hp1 : i < x.2.2.2.2.length := hp _ (List.mem_cons_of_mem _ (List.mem_cons_self))
 exact ⟨.nil, kcast (by kernel_rfl) (I (by omega : i < x.2.2.2.2.length) ((rfl : (x.2.1, x.2.2.2.1, x.2.2.2.2.getD i []) = (x.2.1, x.2.2.2.1, pRow x i))))⟩)
abbrev YB : Ctr Tryz.prog := FI.c YD
abbrev Yw : FI := ⟨143, [(.pr (.int .i64) (.pr (.int .i64) (.pr (.sl .rat) (.pr (.sl .rat) (.sl (.sl (.pr (.pr .rat (.pr .rat .rat)) .rat))))))), .rat], [(.p (.n 6) (.p (.n 6) (.p (.s 16 (.n 6)) (.p (.s 16 (.n 6)) (.s 16 (.s 16 (.p (.p (.n 12) (.p (.n 12) (.n 12))) (.n 12)))))))), (.n 16384)], fun z => (fun (sf : Int × Int × List Rat × List Rat × List (List ((Rat × Rat × Rat) × Rat))) (t : Rat) => [IsO sf t]) z.1 z.2, fun b z => (fun (sf : Int × Int × List Rat × List Rat × List (List ((Rat × Rat × Rat) × Rat))) (t : Rat) => .tup [.agg [.dt qQ bIso (isoV sf t).1], .one (.dt (.int .i64) (.n 7) (isoV sf t).2)]) z.1 z.2⟩
theorem Yx : Yw.OK Tryz.prog := mkF hmix 49 Tryz.func143 rfl rfl (by decide) [(74, .c G2), (75, .c K9), (76, .c Nn), (189, .c YB)] (fun _ => rfl) (fun _ => rfl) (fun _ _ => rfl) (fun (sf : Int × Int × List Rat × List Rat × List (List ((Rat × Rat × Rat) × Rat))) (t : Rat) b hx hp => K7 (hp _ List.mem_cons_self)) (fun (sf : Int × Int × List Rat × List Rat × List (List ((Rat × Rat × Rat) × Rat))) (t : Rat) hx hp => by
 have hp0 : IsO sf t := hp _ (List.mem_cons_self)
 have hxl : sf.2.2.2.2.length ≤ 16 := hx.1.2.2.2.2.1
 exact ⟨.cond (.nil) (.h 4 2 (.mk (.gro .rat (.n 6))) (.pre 5 (.frz 28 true []) (.loop [.s 9 (.nat .i64) (.n 1048576), .ex (gboX 8 90001 [(.dt (.int .i64) (.n 6) sf.1), (.dt (.sl .rat) (.s 16 (.n 6)) (([] : List Rat) ++ sf.2.2.1))] [] (.pr (.pr .rat (.pr .rat .rat)) .rat) (.p (.p (.n 200000) (.p (.n 200000) (.n 200000))) (.n 200000)) 1048576)] (fun ((i, l) : Nat × List ((Rat × Rat × Rat) × Rat)) => l = isoP sf t i ∧ i ≤ sf.2.2.2.2.length) (fun ((i, l) : Nat × List ((Rat × Rat × Rat) × Rat)) => sf.2.2.2.2.length - i) (fun ((i, l) : Nat × List ((Rat × Rat × Rat) × Rat)) => .cond (.h 8 1 (.ext EV) (.h 8 8 (.mk (.im (.pr (.pr .rat (.pr .rat .rat)) .rat) (.p (.p (.n 134217728) (.p (.n 134217728) (.n 134217728))) (.n 134217728)))) (.nil))) (.pre 9 (.frz 90001 true []) (.nil)))))), kcast (by kernel_rfl) (have hd0 := hp0.d0; have hkl := hp0.kl; I (by omega : 0 ≤ sf.2.1) (I (by omega : sf.2.1.toNat + 2 ≤ sf.2.2.2.1.length) (And.intro (fun (h1 : ivE sf.2.2.2.1 t ≠ 0) => And.intro ((Sh h1).1 : (0, [], []) = (isoV sf t).1) ((Sh h1).2 : ivE sf.2.2.2.1 t = (isoV sf t).2)) (fun (h2 : ¬ (ivE sf.2.2.2.1 t ≠ 0)) => I (rfl : 0 = ([] : List Rat).length) (I (by (try simp only [List.length_append, List.length_cons, List.length_nil]) <;> omega : 0 + sf.2.2.1.length = (([] : List Rat) ++ sf.2.2.1).length) (I (rfl : ([(.dt (.int .i64) (.n 6) sf.1), (.dt (.sl .rat) (.s 16 (.n 6)) (([] : List Rat) ++ sf.2.2.1))] : List WA) = [(.dt (.int .i64) (.n 6) sf.1), (.dt (.sl .rat) (.s 16 (.n 6)) (([] : List Rat) ++ sf.2.2.1))]) (I (rfl : ([] : List WA) = []) (I (rfl : 0 = ([] : List ((Rat × Rat × Rat) × Rat)).length) (I (⟨rfl, Nat.zero_le _⟩ : ([] : List ((Rat × Rat × Rat) × Rat)) = isoP sf t 0 ∧ 0 ≤ sf.2.2.2.2.length) (fun (i : Nat) (l : List ((Rat × Rat × Rat) × Rat)) (hb3 : HB [.s 9 (.nat .i64) (.n 1048576), .ex (gboX 8 90001 [(.dt (.int .i64) (.n 6) sf.1), (.dt (.sl .rat) (.s 16 (.n 6)) (([] : List Rat) ++ sf.2.2.1))] [] (.pr (.pr .rat (.pr .rat .rat)) .rat) (.p (.p (.n 200000) (.p (.n 200000) (.n 200000))) (.n 200000)) 1048576)] (i, l)) (hI : l = isoP sf t i ∧ i ≤ sf.2.2.2.2.length) => have hv6 := (show i ≤ 1048576 from hb3.1); have hv7 := (show l.length ≤ 1048576 from hb3.2.1.1); have hl0 := (show l.length = i by rw [hI.1, E3]); And.intro (fun (h4 : i < sf.2.2.2.2.length) => I (hp0.sb : Bnd ju bSfl sf) (I (by omega : i < sf.2.2.2.2.length) (I (hp0.ev i (by omega) : EvC (sf.2.1, sf.2.2.2.1, pRow sf i) t) (I (F5 h2 : ¬ ivO (sf.2.1, sf.2.2.2.1, pRow sf i).2.1 t) (I (by omega : l.length = l.length) (I ((fun y hy => by rw [List.mem_singleton.1 hy]; exact hp0.pb i (by omega) : ∀ x ∈ [ja (homV (sf.2.1, sf.2.2.2.1, pRow sf i) t)], Bnd (.pr (.pr .rat (.pr .rat .rat)) .rat) (.p (.p (.n 200000) (.p (.n 200000) (.n 200000))) (.n 200000)) x) : ∀ x ∈ [ja (homV (sf.2.1, sf.2.2.2.1, pRow sf i) t)], Bnd (.pr (.pr .rat (.pr .rat .rat)) .rat) (.p (.p (.n 200000) (.p (.n 200000) (.n 200000))) (.n 200000)) x) (I (show (i + 1) ≤ 1048576 by omega : Bnd (.nat .i64) (.n 1048576) (i + 1)) (I (rfl : ([(.dt (.int .i64) (.n 6) sf.1), (.dt (.sl .rat) (.s 16 (.n 6)) (([] : List Rat) ++ sf.2.2.1))] : List WA) = [(.dt (.int .i64) (.n 6) sf.1), (.dt (.sl .rat) (.s 16 (.n 6)) (([] : List Rat) ++ sf.2.2.1))]) (I (rfl : ([] : List WA) = []) (I (by (try simp only [List.length_append, List.length_cons, List.length_nil]) <;> omega : l.length + [ja (homV (sf.2.1, sf.2.2.2.1, pRow sf i) t)].length = (l ++ [ja (homV (sf.2.1, sf.2.2.2.1, pRow sf i) t)]).length) (I (by (try simp only [List.length_append, List.length_cons, List.length_nil]) <;> omega : l.length + [ja (homV (sf.2.1, sf.2.2.2.1, pRow sf i) t)].length ≤ 1048576) (And.intro (⟨X8 hI.1, by omega⟩ : l ++ [ja (homV (sf.2.1, sf.2.2.2.1, pRow sf i) t)] = isoP sf t (i + 1) ∧ (i + 1) ≤ sf.2.2.2.2.length) (by omega : sf.2.2.2.2.length - (i + 1) < sf.2.2.2.2.length - i))))))))))))) (fun (h5 : ¬ (i < sf.2.2.2.2.length)) => I (by omega : l.length = l.length) (And.intro ((Si h2 hI.1 h5 hI.2).1 : (sf.1, ([] : List Rat) ++ sf.2.2.1, l) = (isoV sf t).1) ((Si h2 hI.1 h5 hI.2).2 : 0 = (isoV sf t).2)))))))))))))⟩)
abbrev Yv : Ctr Tryz.prog := FI.c Yx
abbrev Ve : FI := ⟨87, [(.pr (.int .i64) (.pr (.int .i64) (.pr (.sl .rat) (.pr (.sl .rat) (.sl (.sl (.pr (.pr .rat (.pr .rat .rat)) .rat))))))), .rat], [(.p (.n 6) (.p (.n 6) (.p (.s 16 (.n 6)) (.p (.s 16 (.n 6)) (.s 16 (.s 16 (.p (.p (.n 12) (.p (.n 12) (.n 12))) (.n 12)))))))), (.n 16384)], fun z => (fun (sf : Int × Int × List Rat × List Rat × List (List ((Rat × Rat × Rat) × Rat))) (t : Rat) => [Bnd ju bSfl sf, 0 < sf.2.2.2.2.length, ∀ i, i < sf.2.2.2.2.length → (pRow sf i).length = (pRow sf 0).length, IsO (qC sf) t]) z.1 z.2, fun b z => (fun (sf : Int × Int × List Rat × List Rat × List (List ((Rat × Rat × Rat) × Rat))) (t : Rat) => .tup [.agg [.dt qQ bIso (isoV (qC sf) t).1], .one (.dt (.int .i64) (.n 7) (isoV (qC sf) t).2)]) z.1 z.2⟩
theorem Vf : Ve.OK Tryz.prog := mkF hmix 12 Tryz.func87 rfl rfl (by decide) [(143, .c Yv), (144, .c Vp)] (fun _ => rfl) (fun _ => rfl) (fun _ _ => rfl) (fun (sf : Int × Int × List Rat × List Rat × List (List ((Rat × Rat × Rat) × Rat))) (t : Rat) b hx hp => K7 (hp _ (by simp))) (fun (sf : Int × Int × List Rat × List Rat × List (List ((Rat × Rat × Rat) × Rat))) (t : Rat) hx hp => by
 have hp0 : Bnd ju bSfl sf := hp _ (List.mem_cons_self)
 have hp1 : 0 < sf.2.2.2.2.length := hp _ (List.mem_cons_of_mem _ (List.mem_cons_self))
 have hp2 : ∀ i, i < sf.2.2.2.2.length → (pRow sf i).length = (pRow sf 0).length := hp _ (List.mem_cons_of_mem _ (List.mem_cons_of_mem _ (List.mem_cons_self)))
 have hp3 : IsO (qC sf) t := hp _ (List.mem_cons_of_mem _ (List.mem_cons_of_mem _ (List.mem_cons_of_mem _ (List.mem_cons_self))))
 exact ⟨.nil, kcast (by kernel_rfl) (I (hp0 : Bnd ju bSfl sf) (I (hp1 : 0 < sf.2.2.2.2.length) (I (hp2 : ∀ i, i < sf.2.2.2.2.length → (pRow sf i).length = (pRow sf 0).length) (I (hp3 : IsO (qC sf) t) (And.intro (Eq.refl ((isoV (qC sf) t).1)) (Eq.refl ((isoV (qC sf) t).2)))))))⟩)
abbrev Vd : Ctr Tryz.prog := FI.c Vf
abbrev Rf : FI := ⟨42, [(.pr (.int .i64) (.pr (.int .i64) (.pr (.sl .rat) (.pr (.sl .rat) (.sl (.sl (.pr (.pr .rat (.pr .rat .rat)) .rat))))))), .rat, .rat], [(.p (.n 6) (.p (.n 6) (.p (.s 16 (.n 6)) (.p (.s 16 (.n 6)) (.s 16 (.s 16 (.p (.p (.n 12) (.p (.n 12) (.n 12))) (.n 12)))))))), (.n 16384), (.n 16384)], fun z => (fun (sf : Int × Int × List Rat × List Rat × List (List ((Rat × Rat × Rat) × Rat))) (t : Rat) (u : Rat) => [Bnd ju bSfl sf, 0 < sf.2.2.2.2.length, ∀ i, i < sf.2.2.2.2.length → (pRow sf i).length = (pRow sf 0).length, IsO (qC sf) t, EvC (isoV (qC sf) t).1 u]) z.1 z.2.1 z.2.2, fun b z => (fun (sf : Int × Int × List Rat × List Rat × List (List ((Rat × Rat × Rat) × Rat))) (t : Rat) (u : Rat) => .tup [.agg [.dt tV3 (bV3 67108868) (sevV sf t u).1], .one (.dt (.int .i64) (.n 7) (sevV sf t u).2)]) z.1 z.2.1 z.2.2⟩
theorem Rg : Rf.OK Tryz.prog := mkF hmix 25 Tryz.func42 rfl rfl (by decide) [(20, .c Ka), (87, .c Vd)] (fun _ => rfl) (fun _ => rfl) (fun _ _ => rfl) (fun (sf : Int × Int × List Rat × List Rat × List (List ((Rat × Rat × Rat) × Rat))) (t : Rat) (u : Rat) b hx hp => Yl (hp _ (by simp))) (fun (sf : Int × Int × List Rat × List Rat × List (List ((Rat × Rat × Rat) × Rat))) (t : Rat) (u : Rat) hx hp => by
 have hp0 : Bnd ju bSfl sf := hp _ (List.mem_cons_self)
 have hp1 : 0 < sf.2.2.2.2.length := hp _ (List.mem_cons_of_mem _ (List.mem_cons_self))
 have hp2 : ∀ i, i < sf.2.2.2.2.length → (pRow sf i).length = (pRow sf 0).length := hp _ (List.mem_cons_of_mem _ (List.mem_cons_of_mem _ (List.mem_cons_self)))
 have hp3 : IsO (qC sf) t := hp _ (List.mem_cons_of_mem _ (List.mem_cons_of_mem _ (List.mem_cons_of_mem _ (List.mem_cons_self))))
 have hp4 : EvC (isoV (qC sf) t).1 u := hp _ (List.mem_cons_of_mem _ (List.mem_cons_of_mem _ (List.mem_cons_of_mem _ (List.mem_cons_of_mem _ (List.mem_cons_self)))))
 exact ⟨.nil, kcast (by kernel_rfl) (I (hp0 : Bnd ju bSfl sf) (I (hp1 : 0 < sf.2.2.2.2.length) (I (hp2 : ∀ i, i < sf.2.2.2.2.length → (pRow sf i).length = (pRow sf 0).length) (I (hp3 : IsO (qC sf) t) (And.intro (fun (h1 : (isoV (qC sf) t).2 ≠ 0) => And.intro ((So h1).1 : (0, 0, 0) = (sevV sf t u).1) ((So h1).2 : (isoV (qC sf) t).2 = (sevV sf t u).2)) (fun (h2 : ¬ ((isoV (qC sf) t).2 ≠ 0)) => I (hp4 : EvC ((isoV (qC sf) t).1) u) (And.intro ((Sp h2).1 : evV ((isoV (qC sf) t).1) u = (sevV sf t u).1) ((Sp h2).2 : ivE ((isoV (qC sf) t).1).2.1 u = (sevV sf t u).2))))))))⟩)
abbrev Re : Ctr Tryz.prog := FI.c Rg
section
def SrtK (k : List Rat) : Prop := ∀ i j, i ≤ j → j < k.length → k.getD i 0 ≤ k.getD j 0
theorem Ek {k : List Rat} : ∀ {n : Nat}, srtN k n = true → ∀ i j, i ≤ j → j < n → k.getD i 0 ≤ k.getD j 0
 | 0, _, i, j, _, h => absurd h (Nat.not_lt_zero j)
 | n + 1, h, i, j, hij, hj => by
  rw [srtN, Bool.and_eq_true, Bool.or_eq_true, decide_eq_true_eq, decide_eq_true_eq] at h
  by_cases e : j = n
  ·subst e
   by_cases e2 : i = j
   ·subst e2; exact Rat.le_refl
   ·have h1 := Ek h.1 i (j - 1) (by omega) (by omega)
    have h2 := h.2.resolve_left (by omega)
    rw [wO] at h2
    grind
  ·exact Ek h.1 i j hij (by omega)
structure Iv (k : List Rat) (d : Nat) (t : Rat) (a : Nat) : Prop where
 s : SrtK k
 lo : d ≤ a
 hi : a + d + 2 ≤ k.length
 l : k.getD a 0 ≤ t
 r : t ≤ k.getD (a + 1) 0
 n : k.getD a 0 < k.getD (a + 1) 0
section
variable {k : List Rat} {t : Rat} {a D : Nat}
theorem q_nn {x y : Rat} (h : 0 ≤ x) (k : 0 ≤ y) : 0 ≤ x / y := by
 by_cases e : y = 0
 ·rw [e, Rat.div_def, Rat.inv_zero, Rat.mul_zero]; exact Rat.le_refl
 ·rw [Rat.div_def]
  exact Rat.mul_nonneg h (Rat.le_of_lt (Rat.inv_pos.2 (by grind)))
theorem HL (h : Iv k D t a) : ∀ d i, d ≤ D → 0 ≤ bsp k t a d i
 | 0, i, _ => by
  rw [bsp]; split
  ·exact (by decide : (0 : Rat) ≤ ((1 : Int) : Rat))
  ·exact Rat.le_refl
 | d + 1, i, hd => by
  rw [bsp]; split
  ·exact Rat.le_refl
  ·rename_i hn
   have h1 := HL h d i (by omega)
   have h2 := HL h d (i + 1) (by omega)
   have hh := h.hi
   have s1 := h.s i a (by omega) (by omega)
   have s2 := h.s (a + 1) (i + (d + 1) + 1) (by omega) (by omega)
   have s3 := h.s i (i + (d + 1)) (by omega) (by omega)
   have s4 := h.s (i + 1) (i + (d + 1) + 1) (by omega) (by omega)
   have l := h.l; have r := h.r
   have p1 := Rat.mul_nonneg (q_nn (show 0 ≤ t - k.getD i 0 by grind) (show 0 ≤ k.getD (i + (d + 1)) 0 - k.getD i 0 by grind)) h1
   have p2 := Rat.mul_nonneg (q_nn (show 0 ≤ k.getD (i + (d + 1) + 1) 0 - t by grind) (show 0 ≤ k.getD (i + (d + 1) + 1) 0 - k.getD (i + 1) 0 by grind)) h2
   exact Rat.add_nonneg p1 p2
theorem S0 (d i : Nat) (h : a < i ∨ i + d < a) : bsp k t a d i = 0 := by
 cases d with
 | zero => rw [bsp, if_neg (by omega)]
 | succ d => rw [bsp, if_pos h]
def sm (f : Nat → Rat) : Nat → Rat
 | 0 => 0
 | n + 1 => sm f n + f n
theorem JT (h : Iv k D t a) : ∀ d, d ≤ D → sm (fun j => bsp k t a d (a - d + j)) (d + 1) = 1
 | 0, _ => by
  simp only [sm, bsp, Nat.sub_zero, Nat.add_zero, if_true]
  have e : ((1 : Int) : Rat) = 1 := rfl
  rw [e]; grind
 | d + 1, hd => by
  have ih := JT h d (by omega)
  have hlo := h.lo; have hhi := h.hi
  obtain ⟨c, hc⟩ : ∃ c, a = c + (d + 1) := ⟨a - (d + 1), by omega⟩
  have e1 : a - (d + 1) = c := by omega
  have e2 : a - d = c + 1 := by omega
  rw [e1]; rw [e2] at ih
  have f0 : bsp k t a d c = 0 := S0 d c (.inr (by omega))
  have fe : bsp k t a d (c + (d + 2)) = 0 := S0 d _ (.inl (by omega))
  have g : ∀ j, j ≤ d + 1 → bsp k t a (d + 1) (c + j) = (t - k.getD (c + j) 0) / (k.getD (c + j + (d + 1)) 0 - k.getD (c + j) 0) * bsp k t a d (c + j) + (k.getD (c + j + (d + 1) + 1) 0 - t) / (k.getD (c + j + (d + 1) + 1) 0 - k.getD (c + j + 1) 0) * bsp k t a d (c + j + 1) := fun j hj => by
   rw [bsp, if_neg (by omega)]
  have ab : ∀ j, j ≤ d → (t - k.getD (c + (j + 1)) 0) / (k.getD (c + (j + 1) + (d + 1)) 0 - k.getD (c + (j + 1)) 0) + (k.getD (c + j + (d + 1) + 1) 0 - t) / (k.getD (c + j + (d + 1) + 1) 0 - k.getD (c + j + 1) 0) = 1 := fun j hj => by
   have s1 := h.s (c + j + 1) a (by omega) (by omega)
   have s2 := h.s (a + 1) (c + j + (d + 1) + 1) (by omega) (by omega)
   have n := h.n
   rw [show c + (j + 1) + (d + 1) = c + j + (d + 1) + 1 by omega, show c + (j + 1) = c + j + 1 by omega]
   have hne : k.getD (c + j + (d + 1) + 1) 0 - k.getD (c + j + 1) 0 ≠ 0 := by grind
   have q1 := ER (x := t - k.getD (c + j + 1) 0) hne
   have q2 := ER (x := k.getD (c + j + (d + 1) + 1) 0 - t) hne
   generalize (t - k.getD (c + j + 1) 0) / (k.getD (c + j + (d + 1) + 1) 0 - k.getD (c + j + 1) 0) = u at *
   generalize (k.getD (c + j + (d + 1) + 1) 0 - t) / (k.getD (c + j + (d + 1) + 1) 0 - k.getD (c + j + 1) 0) = v at *
   have h9 : (u + v - 1) * (k.getD (c + j + (d + 1) + 1) 0 - k.getD (c + j + 1) 0) = 0 := by grind
   rcases Rat.mul_eq_zero.1 h9 with h9 | h9
   ·grind
   ·exact absurd h9 hne
  have key : ∀ m, m ≤ d + 1 → sm (fun j => bsp k t a (d + 1) (c + j)) (m + 1) = sm (fun j => bsp k t a d (c + 1 + j)) m + (k.getD (c + m + (d + 1) + 1) 0 - t) / (k.getD (c + m + (d + 1) + 1) 0 - k.getD (c + m + 1) 0) * bsp k t a d (c + m + 1) := by
   intro m
   induction m with
   | zero =>
    intro _
    simp only [sm]
    rw [g 0 (by omega), Nat.add_zero, f0]; grind
   | succ m ihm =>
    intro hm
    have i1 := ihm (by omega)
    rw [sm, i1, g (m + 1) hm]
    have q := ab m (by omega)
    simp only [sm]
    rw [show c + 1 + m = c + (m + 1) by omega, show c + m + 1 = c + (m + 1) by omega] at *
    generalize (t - k.getD (c + (m + 1)) 0) / (k.getD (c + (m + 1) + (d + 1)) 0 - k.getD (c + (m + 1)) 0) = u at *
    generalize (k.getD (c + m + (d + 1) + 1) 0 - t) / (k.getD (c + m + (d + 1) + 1) 0 - k.getD (c + (m + 1)) 0) = v at *
    generalize bsp k t a d (c + (m + 1)) = B at *
    have : u * B + v * B = B := by rw [← Rat.add_mul, q, Rat.one_mul]
    grind
  rw [key (d + 1) (Nat.le_refl _), ih, show c + (d + 1) + 1 = c + (d + 2) by omega, fe]; grind
end
end
section
section
variable {k : List Rat} {t : Rat}
theorem J9 {m : Nat} : ∀ {n : Nat}, m ≤ n → (∀ i, m ≤ i → i < n → k.getD i 0 ≠ t) → qu k t n = qu k t m
 | 0, h, _ => by rw [show m = 0 by omega]
 | n + 1, h, g => by
  by_cases e : m = n + 1
  ·rw [e]
  ·rw [qu, if_neg (g n (by omega) (by omega)), J9 (by omega) fun i a b => g i a (by omega)]
theorem Ja {m : Nat} : ∀ {n : Nat}, (∀ i, i < m → k.getD i 0 ≠ t) → qu k t n ≤ n - m
 | 0, _ => Nat.le_of_eq (by simp [qu])
 | n + 1, g => by
  have ih := Ja (n := n) g
  rw [qu]
  by_cases e : n < m
  ·rw [if_neg (g n e)]; omega
  ·split <;> omega
theorem GX {m : Nat} : ∀ {n : Nat}, m ≤ n → (∀ i, m ≤ i → i < n → k.getD i 0 = t) → n - m ≤ qu k t n
 | 0, h, _ => by omega
 | n + 1, h, g => by
  by_cases e : m = n + 1
  ·omega
  ·rw [qu, if_pos (g n (by omega) (by omega))]
   have := GX (m := m) (n := n) (by omega) fun i a b => g i a (by omega)
   omega
end
theorem Ga {k : List Rat} {d : Int} : ∀ {n : Nat}, okN k d n = true → ∀ i, i < n → ¬ badM k d i
 | 0, _, i, h => absurd h (Nat.not_lt_zero i)
 | n + 1, h, i, hi => by
  rw [okN, Bool.and_eq_true, decide_eq_true_eq] at h
  by_cases e : i = n
  ·subst e; exact h.2
  ·exact Ga h.1 i (by omega)
structure Cl (k : List Rat) (d : Nat) : Prop where
 s : SrtK k
 l : 2 * d + 2 ≤ k.length
 f : k.getD d 0 = k.getD 0 0
 e : k.getD (k.length - 1 - d) 0 = k.getD (k.length - 1) 0
 p : k.getD (k.length - 2 - d) 0 < k.getD (k.length - 1) 0
theorem FP {k : List Rat} {d : Int} (h : chkK k d = 0) : 1 ≤ d ∧ d ≤ 6 ∧ k.length ≤ 47 ∧ Cl k d.toNat := by
 unfold chkK at h
 split at h
 ·cases h
 rename_i h1
 split at h
 ·cases h
 rename_i h2
 split at h
 ·cases h
 rename_i h3
 split at h
 ·cases h
 rename_i h4
 split at h
 ·cases h
 rename_i h5
 split at h
 ·cases h
 rename_i h6
 have h4 : srtN k k.length = true := by simpa using h4
 have h5 : okN k d (dst k).length = true := by simpa using h5
 have hs : SrtK k := fun i j a b => Ek h4 i j a b
 have D := dsO (show 0 < k.length by omega) h4
 have q0 := Ga h5 0 (by omega)
 have q1 := Ga h5 ((dst k).length - 1) (by omega)
 have D1 : (dst k).getD 0 0 = k.getD 0 0 := D.hf
 have D2 : (dst k).getD ((dst k).length - 1) 0 = k.getD (k.length - 1) 0 := D.hl
 unfold badM at q0 q1
 rw [D1] at q0; rw [D2] at q1
 have c0 : ((qu k (k.getD 0 0) k.length : Nat) : Int) = d + 1 := by omega
 have c1 : ((qu k (k.getD (k.length - 1) 0) k.length : Nat) : Int) = d + 1 := by omega
 refine ⟨by omega, by omega, by omega, hs, by omega, ?_, ?_, ?_⟩
 ·by_cases e : k.getD d.toNat 0 = k.getD 0 0
  ·exact e
  ·exfalso
   have := J9 (k := k) (t := k.getD 0 0) (m := d.toNat) (n := k.length) (by omega) fun i a b e2 => by
    have s1 := hs 0 d.toNat (by omega) (by omega); have s2 := hs d.toNat i a b; rw [e2] at s2; grind
   have := w4 k (k.getD 0 0) d.toNat
   omega
 ·by_cases e : k.getD (k.length - 1 - d.toNat) 0 = k.getD (k.length - 1) 0
  ·exact e
  ·exfalso
   have := Ja (k := k) (t := k.getD (k.length - 1) 0) (m := k.length - d.toNat) (n := k.length) fun i a e2 => by
    have s1 := hs i (k.length - 1 - d.toNat) (by omega) (by omega); have s2 := hs (k.length - 1 - d.toNat) (k.length - 1) (by omega) (by omega); rw [e2] at s1; grind
   omega
 ·have s1 := hs (k.length - 2 - d.toNat) (k.length - 1) (by omega) (by omega)
  by_cases e : k.getD (k.length - 2 - d.toNat) 0 = k.getD (k.length - 1) 0
  ·exfalso
   have := GX (k := k) (t := k.getD (k.length - 1) 0) (m := k.length - 2 - d.toNat) (n := k.length) (by omega) fun i a b => by
    have s2 := hs (k.length - 2 - d.toNat) i a b; have s3 := hs i (k.length - 1) (by omega) (by omega); grind
   omega
  ·grind
theorem If {k : List Rat} {t : Rat} : ∀ n, (ivl k t n = 0 ∨ k.getD (ivl k t n) 0 ≤ t) ∧ (ivl k t n < n → t < k.getD (ivl k t n + 1) 0) ∧ ∀ i, i ≤ n → k.getD i 0 ≤ t → i ≤ ivl k t n
 | 0 => ⟨.inl rfl, fun h => absurd h (Nat.lt_irrefl 0), fun i h _ => h⟩
 | n + 1 => by
  have ih := If (k := k) (t := t) n
  rw [ivl]; split
  ·rename_i h
   rw [wO] at h
   refine ⟨ih.1, fun hl => ?_, fun i hi hk => ?_⟩
   ·by_cases e : ivl k t n < n
    ·exact ih.2.1 e
    ·have := CL k t n; rw [show ivl k t n = n by omega]; exact h
   ·by_cases e : i = n + 1
    ·subst e; grind
    ·exact ih.2.2 i (by omega) hk
  ·rename_i h
   rw [wO] at h
   exact ⟨.inr (by grind), fun hl => absurd hl (Nat.lt_irrefl _), fun i hi _ => hi⟩
theorem Cl.iv {k : List Rat} {d : Int} {t : Rat} (h : Cl k d.toNat) (ht : ¬ ivO k t) : Iv k d.toNat t (ivI k d t) := by
 have hl := h.l
 have ha : ivI k d t = ivl k t (k.length - 2 - d.toNat) := by unfold ivI; rw [if_neg ht]
 unfold ivO at ht
 have t1 : k.getD 0 0 ≤ t := by have := not_or.1 ht; rw [wO] at this; grind
 have t2 : t ≤ k.getD (k.length - 1) 0 := by
  have := (not_or.1 ht).2
  unfold cmpQ at this
  (repeat' split at this) <;> grind
 have sp := If (k := k) (t := t) (k.length - 2 - d.toNat)
 have le := CL k t (k.length - 2 - d.toNat)
 rw [ha]
 have lo : d.toNat ≤ ivl k t (k.length - 2 - d.toNat) := sp.2.2 d.toNat (by omega) (by rw [h.f]; exact t1)
 generalize ivl k t (k.length - 2 - d.toNat) = a at *
 have kl : k.getD a 0 ≤ t := by
  rcases sp.1 with e | e
  ·rw [e]; exact t1
  ·exact e
 have hh : t ≤ k.getD (a + 1) 0 ∧ k.getD a 0 < k.getD (a + 1) 0 := by
  by_cases e : a < k.length - 2 - d.toNat
  ·have := sp.2.1 e; constructor <;> grind
  ·have e2 : a + 1 = k.length - 1 - d.toNat := by omega
   have e3 : a = k.length - 2 - d.toNat := by omega
   rw [e2, h.e]
   exact ⟨t2, by rw [e3]; exact h.p⟩
 exact ⟨h.s, lo, by omega, kl, hh.1, hh.2⟩
end
end Go.Proofs.YtcjgaaibflcdiaaGreat.Sx
