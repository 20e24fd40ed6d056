/-
Own laws and walks for the claim, part 5: WRef4, WRef5, WRef6, WRef7, WRef8, WYa1, WYa2, WYa3, WVa1, WVa2, WOa1, WDa2, WTd, WTd2, WTd3, WMa1, WMa2, WEx1, WEx2, WEx3, WMb1, WUq, WTe, WTe2, WMb2, WTe3, WMb3. No condition.
-/
import Derived.Test.YtchgnllhbcadpaaGreatE4
namespace Go.Proofs.YtchgnllhbcadpaaGreat.Sx
open Go Go.Proofs
set_option linter.unusedVariables false
set_option linter.unusedSimpArgs false
set_option maxRecDepth 20000
set_option maxHeartbeats 4000000
abbrev PL : FI := ⟨221, [.mag], [(.n 1099511627776)], fun _ => [], fun b z => (fun (x : Nat) => .tup [.one (.dt (.nat .u64) (.n 18446744073709551615) (xw x)), .one (.dt .bool .u (xk x))]) z⟩
theorem PM : PL.OK Tryz.prog := mkF hmix 26 Tryz.func221 rfl rfl (by decide) [] (fun _ => rfl) (fun _ => rfl) (fun _ _ => rfl) (fun (x : Nat) b hx hp => qF (qe (Y1 x) rfl) (qF (qe trivial rfl) jz)) (fun (x : Nat) hx hp => by
 have hx0 : lt2 x 1099511627776 := hx
 have hl0 : (limbs x).length ≤ 34359738369 := qf (Nat.le_of_lt hx0)
 exact ⟨.cond (.nil) (.cond (.nil) (.cond (.h 7 9 (.i (.n (((limbs x).getD 0 0) + (((limbs x).getD 1 0) * 2 ^ 32)) 18446744073709551615)) (.nil)) (.nil))), kcast (by kernel_rfl) (And.intro (fun (h1 : (limbs x).length = 0) => And.intro (by rw [(xw_y (by omega)).1]; exact (nl0.1 (by omega)).symm : 0 = xw x) ((xw_y (by omega)).2.symm : true = xk x)) (fun (h2 : ¬ ((limbs x).length = 0)) => And.intro (fun (h3 : (limbs x).length = 1) => I (by omega : 0 < (limbs x).length) (And.intro (by rw [(xw_y (by omega)).1]; exact KC (by omega) : (limbs x).getD 0 0 = xw x) ((xw_y (by omega)).2.symm : true = xk x))) (fun (h4 : ¬ ((limbs x).length = 1)) => And.intro (fun (h5 : (limbs x).length = 2) => I (by omega : 0 < (limbs x).length) (I (by omega : 1 < (limbs x).length) (I (Eh _ 32 rfl (q7 _ _) (by have := q7 x 0; have := q7 x 1; omega) : qx .or .u64 (((limbs x).getD 0 0 : Nat) : Int) ((((limbs x).getD 1 0) * 2 ^ 32 : Nat) : Int) ((((limbs x).getD 0 0) + (((limbs x).getD 1 0) * 2 ^ 32) : Nat) : Int)) (I (by have := q7 x 0; have := q7 x 1; omega : ((limbs x).getD 0 0) + (((limbs x).getD 1 0) * 2 ^ 32) ≤ 18446744073709551615) (And.intro (by rw [(xw_y (by omega)).1]; exact Nn (by omega) : ((limbs x).getD 0 0) + (((limbs x).getD 1 0) * 2 ^ 32) = xw x) ((xw_y (by omega)).2.symm : true = xk x)))))) (fun (h6 : ¬ ((limbs x).length = 2)) => And.intro ((xw_n (by omega)).1.symm : 0 = xw x) ((xw_n (by omega)).2.symm : false = xk x)))))⟩)
abbrev IN : Ctr Tryz.prog := FI.c PM
abbrev Tz : FI := ⟨223, [.mag], [(.n 1099511627776)], fun _ => [], fun b z => (fun (x : Nat) => .c (.one (.dt (.nat .i64) (b0 b) (bl x)))) z⟩
theorem TA : Tz.OK Tryz.prog := mkF hmix 25 Tryz.func223 rfl rfl (by decide) [] (fun _ => rfl) (fun _ => rfl) (fun _ _ => rfl) (fun (x : Nat) b hx hp => qe (LC (Bnds.h1 hx)) rfl) (fun (x : Nat) hx hp => by
 have hx0 : lt2 x 1099511627776 := hx
 have hl0 : (limbs x).length ≤ 34359738369 := qf (Nat.le_of_lt hx0)
 exact ⟨.cond (.nil) (.h 3 2 (.i .sub) (.h 4 3 (.i .sub) (.loop [.s 3 (.nat .i64) (.n 1099511627872), .s 4 (.nat .u32) (.n 4294967295)] (fun ((k, v) : Nat × Nat) => k + bl v = bl x) (fun ((k, v) : Nat × Nat) => v) (fun ((k, v) : Nat × Nat) => .nil)))), kcast (by kernel_rfl) (And.intro (fun (h1 : (limbs x).length = 0) => (by have := (nl0 (x := x)).1 (by omega); subst this; rfl : 0 = bl x)) (fun (h2 : ¬ ((limbs x).length = 0)) => have hpos := (show 0 < (limbs x).length by omega); have hBB := Fq hpos; I (by omega : 1 ≤ (limbs x).length) (I (by omega : 1 ≤ (limbs x).length) (I (by omega : ((limbs x).length) - 1 < (limbs x).length) (I (hBB : (32 * (((limbs x).length) - 1)) + bl ((limbs x).getD (((limbs x).length) - 1) 0) = bl x) (fun (k : Nat) (v : Nat) (hb3 : HB [.s 3 (.nat .i64) (.n 1099511627872), .s 4 (.nat .u32) (.n 4294967295)] (k, v)) (hC : k + bl v = bl x) => have hv6 := (show k ≤ 1099511627872 from hb3.1); have hv7 := (show v ≤ 4294967295 from hb3.2); have hbx := (Ej hx0 : bl x ≤ 1099511627776); And.intro (fun (h4 : v ≠ 0) => I (show (k + 1) ≤ 1099511627872 by omega : Bnd (.nat .i64) (.n 1099511627872) (k + 1)) (And.intro (by have := Qj (v := v) (by omega); omega : (k + 1) + bl (v / 2 ^ 1) = bl x) (by omega : v / 2 ^ 1 < v))) (fun (h5 : ¬ (v ≠ 0)) => (by have e : v = 0 := (by omega); rw [e, CZ] at hC; omega : k = bl x))))))))⟩)
abbrev Tx : Ctr Tryz.prog := FI.c TA
abbrev Wv : FI := ⟨119, [.mag, .mag], [(.n 1099511627776), (.n 1099511627776)], fun _ => [], fun b z => (fun (x : Nat) (y : Nat) => .c (.one (.dt .mag (.n (max (b0 b).nb (b1 b).nb + 1)) (x + y)))) z.1 z.2⟩
theorem Ww : Wv.OK Tryz.prog := mkF hmix 54 Tryz.func119 rfl rfl (by decide) [] (fun _ => rfl) (fun _ => rfl) (fun _ _ => rfl) (fun (x : Nat) (y : Nat) b hx hp => qe (Da (Bnds.h2 hx).1.mag (Bnds.h2 hx).2.mag) rfl) (fun (x : Nat) (y : Nat) hx hp => by
 have hx0 : lt2 x 1099511627776 := hx.1
 have hl0 : (limbs x).length ≤ 34359738369 := qf (Nat.le_of_lt hx0)
 have hx1 : lt2 y 1099511627776 := hx.2
 have hl1 : (limbs y).length ≤ 34359738369 := qf (Nat.le_of_lt hx1)
 exact ⟨.loop [.s 7 (.nat .i64) (.n 34359738371), .s 6 (.nat .u64) (.n 1), .g 5 90005 (.nat .u32) (.n 4294967295) 34359738371] (fun ((i, c, out) : Nat × Nat × List Nat) => AddX x y i c out) (fun ((i, c, out) : Nat × Nat × List Nat) => max (limbs x).length (limbs y).length + 1 - i) (fun ((i, c, out) : Nat × Nat × List Nat) => .cond (.cond (.cond (.h 10 3 (.mk (.im (.nat .u32) (.n 4294967295))) (.nil)) (.h 10 3 (.mk (.im (.nat .u32) (.n 4294967295))) (.nil))) (.cond (.h 10 3 (.mk (.im (.nat .u32) (.n 4294967295))) (.nil)) (.h 10 3 (.mk (.im (.nat .u32) (.n 4294967295))) (.nil)))) (.cond (.cond (.cond (.h 10 3 (.mk (.im (.nat .u32) (.n 4294967295))) (.nil)) (.h 10 3 (.mk (.im (.nat .u32) (.n 4294967295))) (.nil))) (.cond (.h 10 3 (.mk (.im (.nat .u32) (.n 4294967295))) (.nil)) (.h 10 3 (.mk (.im (.nat .u32) (.n 4294967295))) (.nil)))) (.cond (.cond (.cond (.h 10 3 (.mk (.im (.nat .u32) (.n 4294967295))) (.nil)) (.h 10 3 (.mk (.im (.nat .u32) (.n 4294967295))) (.nil))) (.cond (.h 10 3 (.mk (.im (.nat .u32) (.n 4294967295))) (.nil)) (.h 10 3 (.mk (.im (.nat .u32) (.n 4294967295))) (.nil)))) (.pre 12 (.frz 90005 true [5]) (.h 12 1 (.mag (x + y) 1099511627777) (.nil)))))), kcast (by kernel_rfl) (I (rfl : 0 = ([] : List Nat).length) (I (AddX.start x y : AddX x y 0 0 ([] : List Nat)) (fun (i : Nat) (c : Nat) (out : List Nat) (hb1 : HB [.s 7 (.nat .i64) (.n 34359738371), .s 6 (.nat .u64) (.n 1), .g 5 90005 (.nat .u32) (.n 4294967295) 34359738371] (i, c, out)) (hI : AddX x y i c out) => have hv26 := (show i ≤ 34359738371 from hb1.1); have hv27 := (show c ≤ 1 from hb1.2.1); have hv28 := (show out.length ≤ 34359738371 from hb1.2.2.1); have hIl := hI.hl; have hIi := hI.hi; have hIc := hI.hc; have hg1 := q7 x i; have hg2 := q7 y i; And.intro (fun (h2 : i < (limbs x).length) => And.intro (fun (h3 : i < (limbs x).length) => I (by omega : i < (limbs x).length) (And.intro (fun (h4 : i < (limbs y).length) => I (by omega : i < (limbs y).length) (I (by omega : out.length = out.length) (I (show (i + 1) ≤ 34359738371 by omega : Bnd (.nat .i64) (.n 34359738371) (i + 1)) (I (by (try simp only [List.length_append, List.length_cons, List.length_nil]) <;> omega : out.length + [((c + ((limbs x).getD i 0)) + ((limbs y).getD i 0)) % 4294967296].length = (out ++ [((c + ((limbs x).getD i 0)) + ((limbs y).getD i 0)) % 4294967296]).length) (I (by (try simp only [List.length_append, List.length_cons, List.length_nil]) <;> omega : out.length + [((c + ((limbs x).getD i 0)) + ((limbs y).getD i 0)) % 4294967296].length ≤ 34359738371) (And.intro (hI.step2 (by omega) (by first | rfl | (have hq1 := @qo (limbs x) i; have hq2 := @qo (limbs y) i; omega)) (by omega) : AddX x y (i + 1) (((c + ((limbs x).getD i 0)) + ((limbs y).getD i 0)) / 2 ^ 32) (out ++ [((c + ((limbs x).getD i 0)) + ((limbs y).getD i 0)) % 4294967296])) (by have := hI.le (by omega); omega : max (limbs x).length (limbs y).length + 1 - (i + 1) < max (limbs x).length (limbs y).length + 1 - i))))))) (fun (h5 : ¬ (i < (limbs y).length)) => I (by omega : out.length = out.length) (I (show (i + 1) ≤ 34359738371 by omega : Bnd (.nat .i64) (.n 34359738371) (i + 1)) (I (by (try simp only [List.length_append, List.length_cons, List.length_nil]) <;> omega : out.length + [(c + ((limbs x).getD i 0)) % 4294967296].length = (out ++ [(c + ((limbs x).getD i 0)) % 4294967296]).length) (I (by (try simp only [List.length_append, List.length_cons, List.length_nil]) <;> omega : out.length + [(c + ((limbs x).getD i 0)) % 4294967296].length ≤ 34359738371) (And.intro (hI.step2 (by omega) (by first | rfl | (have hq1 := @qo (limbs x) i; have hq2 := @qo (limbs y) i; omega)) (by omega) : AddX x y (i + 1) ((c + ((limbs x).getD i 0)) / 2 ^ 32) (out ++ [(c + ((limbs x).getD i 0)) % 4294967296])) (by have := hI.le (by omega); omega : max (limbs x).length (limbs y).length + 1 - (i + 1) < max (limbs x).length (limbs y).length + 1 - i)))))))) (fun (h6 : ¬ (i < (limbs x).length)) => And.intro (fun (h7 : i < (limbs y).length) => I (by omega : i < (limbs y).length) (I (by omega : out.length = out.length) (I (show (i + 1) ≤ 34359738371 by omega : Bnd (.nat .i64) (.n 34359738371) (i + 1)) (I (by (try simp only [List.length_append, List.length_cons, List.length_nil]) <;> omega : out.length + [(c + ((limbs y).getD i 0)) % 4294967296].length = (out ++ [(c + ((limbs y).getD i 0)) % 4294967296]).length) (I (by (try simp only [List.length_append, List.length_cons, List.length_nil]) <;> omega : out.length + [(c + ((limbs y).getD i 0)) % 4294967296].length ≤ 34359738371) (And.intro (hI.step2 (by omega) (by first | rfl | (have hq1 := @qo (limbs x) i; have hq2 := @qo (limbs y) i; omega)) (by omega) : AddX x y (i + 1) ((c + ((limbs y).getD i 0)) / 2 ^ 32) (out ++ [(c + ((limbs y).getD i 0)) % 4294967296])) (by have := hI.le (by omega); omega : max (limbs x).length (limbs y).length + 1 - (i + 1) < max (limbs x).length (limbs y).length + 1 - i))))))) (fun (h8 : ¬ (i < (limbs y).length)) => I (by omega : out.length = out.length) (I (show (i + 1) ≤ 34359738371 by omega : Bnd (.nat .i64) (.n 34359738371) (i + 1)) (I (by (try simp only [List.length_append, List.length_cons, List.length_nil]) <;> omega : out.length + [c].length = (out ++ [c]).length) (I (by (try simp only [List.length_append, List.length_cons, List.length_nil]) <;> omega : out.length + [c].length ≤ 34359738371) (And.intro (hI.step2 (by omega) (by first | rfl | (have hq1 := @qo (limbs x) i; have hq2 := @qo (limbs y) i; omega)) (by omega) : AddX x y (i + 1) (c / 2 ^ 32) (out ++ [c])) (by have := hI.le (by omega); omega : max (limbs x).length (limbs y).length + 1 - (i + 1) < max (limbs x).length (limbs y).length + 1 - i)))))))) (fun (h9 : ¬ (i < (limbs x).length)) => And.intro (fun (h10 : i < (limbs y).length) => And.intro (fun (h11 : i < (limbs x).length) => I (by omega : i < (limbs x).length) (And.intro (fun (h12 : i < (limbs y).length) => I (by omega : i < (limbs y).length) (I (by omega : out.length = out.length) (I (show (i + 1) ≤ 34359738371 by omega : Bnd (.nat .i64) (.n 34359738371) (i + 1)) (I (by (try simp only [List.length_append, List.length_cons, List.length_nil]) <;> omega : out.length + [((c + ((limbs x).getD i 0)) + ((limbs y).getD i 0)) % 4294967296].length = (out ++ [((c + ((limbs x).getD i 0)) + ((limbs y).getD i 0)) % 4294967296]).length) (I (by (try simp only [List.length_append, List.length_cons, List.length_nil]) <;> omega : out.length + [((c + ((limbs x).getD i 0)) + ((limbs y).getD i 0)) % 4294967296].length ≤ 34359738371) (And.intro (hI.step2 (by omega) (by first | rfl | (have hq1 := @qo (limbs x) i; have hq2 := @qo (limbs y) i; omega)) (by omega) : AddX x y (i + 1) (((c + ((limbs x).getD i 0)) + ((limbs y).getD i 0)) / 2 ^ 32) (out ++ [((c + ((limbs x).getD i 0)) + ((limbs y).getD i 0)) % 4294967296])) (by have := hI.le (by omega); omega : max (limbs x).length (limbs y).length + 1 - (i + 1) < max (limbs x).length (limbs y).length + 1 - i))))))) (fun (h13 : ¬ (i < (limbs y).length)) => I (by omega : out.length = out.length) (I (show (i + 1) ≤ 34359738371 by omega : Bnd (.nat .i64) (.n 34359738371) (i + 1)) (I (by (try simp only [List.length_append, List.length_cons, List.length_nil]) <;> omega : out.length + [(c + ((limbs x).getD i 0)) % 4294967296].length = (out ++ [(c + ((limbs x).getD i 0)) % 4294967296]).length) (I (by (try simp only [List.length_append, List.length_cons, List.length_nil]) <;> omega : out.length + [(c + ((limbs x).getD i 0)) % 4294967296].length ≤ 34359738371) (And.intro (hI.step2 (by omega) (by first | rfl | (have hq1 := @qo (limbs x) i; have hq2 := @qo (limbs y) i; omega)) (by omega) : AddX x y (i + 1) ((c + ((limbs x).getD i 0)) / 2 ^ 32) (out ++ [(c + ((limbs x).getD i 0)) % 4294967296])) (by have := hI.le (by omega); omega : max (limbs x).length (limbs y).length + 1 - (i + 1) < max (limbs x).length (limbs y).length + 1 - i)))))))) (fun (h14 : ¬ (i < (limbs x).length)) => And.intro (fun (h15 : i < (limbs y).length) => I (by omega : i < (limbs y).length) (I (by omega : out.length = out.length) (I (show (i + 1) ≤ 34359738371 by omega : Bnd (.nat .i64) (.n 34359738371) (i + 1)) (I (by (try simp only [List.length_append, List.length_cons, List.length_nil]) <;> omega : out.length + [(c + ((limbs y).getD i 0)) % 4294967296].length = (out ++ [(c + ((limbs y).getD i 0)) % 4294967296]).length) (I (by (try simp only [List.length_append, List.length_cons, List.length_nil]) <;> omega : out.length + [(c + ((limbs y).getD i 0)) % 4294967296].length ≤ 34359738371) (And.intro (hI.step2 (by omega) (by first | rfl | (have hq1 := @qo (limbs x) i; have hq2 := @qo (limbs y) i; omega)) (by omega) : AddX x y (i + 1) ((c + ((limbs y).getD i 0)) / 2 ^ 32) (out ++ [(c + ((limbs y).getD i 0)) % 4294967296])) (by have := hI.le (by omega); omega : max (limbs x).length (limbs y).length + 1 - (i + 1) < max (limbs x).length (limbs y).length + 1 - i))))))) (fun (h16 : ¬ (i < (limbs y).length)) => I (by omega : out.length = out.length) (I (show (i + 1) ≤ 34359738371 by omega : Bnd (.nat .i64) (.n 34359738371) (i + 1)) (I (by (try simp only [List.length_append, List.length_cons, List.length_nil]) <;> omega : out.length + [c].length = (out ++ [c]).length) (I (by (try simp only [List.length_append, List.length_cons, List.length_nil]) <;> omega : out.length + [c].length ≤ 34359738371) (And.intro (hI.step2 (by omega) (by first | rfl | (have hq1 := @qo (limbs x) i; have hq2 := @qo (limbs y) i; omega)) (by omega) : AddX x y (i + 1) (c / 2 ^ 32) (out ++ [c])) (by have := hI.le (by omega); omega : max (limbs x).length (limbs y).length + 1 - (i + 1) < max (limbs x).length (limbs y).length + 1 - i)))))))) (fun (h17 : ¬ (i < (limbs y).length)) => And.intro (fun (h18 : c ≠ 0) => And.intro (fun (h19 : i < (limbs x).length) => I (by omega : i < (limbs x).length) (And.intro (fun (h20 : i < (limbs y).length) => I (by omega : i < (limbs y).length) (I (by omega : out.length = out.length) (I (show (i + 1) ≤ 34359738371 by omega : Bnd (.nat .i64) (.n 34359738371) (i + 1)) (I (by (try simp only [List.length_append, List.length_cons, List.length_nil]) <;> omega : out.length + [((c + ((limbs x).getD i 0)) + ((limbs y).getD i 0)) % 4294967296].length = (out ++ [((c + ((limbs x).getD i 0)) + ((limbs y).getD i 0)) % 4294967296]).length) (I (by (try simp only [List.length_append, List.length_cons, List.length_nil]) <;> omega : out.length + [((c + ((limbs x).getD i 0)) + ((limbs y).getD i 0)) % 4294967296].length ≤ 34359738371) (And.intro (hI.step2 (by omega) (by first | rfl | (have hq1 := @qo (limbs x) i; have hq2 := @qo (limbs y) i; omega)) (by omega) : AddX x y (i + 1) (((c + ((limbs x).getD i 0)) + ((limbs y).getD i 0)) / 2 ^ 32) (out ++ [((c + ((limbs x).getD i 0)) + ((limbs y).getD i 0)) % 4294967296])) (by have := hI.le (by omega); omega : max (limbs x).length (limbs y).length + 1 - (i + 1) < max (limbs x).length (limbs y).length + 1 - i))))))) (fun (h21 : ¬ (i < (limbs y).length)) => I (by omega : out.length = out.length) (I (show (i + 1) ≤ 34359738371 by omega : Bnd (.nat .i64) (.n 34359738371) (i + 1)) (I (by (try simp only [List.length_append, List.length_cons, List.length_nil]) <;> omega : out.length + [(c + ((limbs x).getD i 0)) % 4294967296].length = (out ++ [(c + ((limbs x).getD i 0)) % 4294967296]).length) (I (by (try simp only [List.length_append, List.length_cons, List.length_nil]) <;> omega : out.length + [(c + ((limbs x).getD i 0)) % 4294967296].length ≤ 34359738371) (And.intro (hI.step2 (by omega) (by first | rfl | (have hq1 := @qo (limbs x) i; have hq2 := @qo (limbs y) i; omega)) (by omega) : AddX x y (i + 1) ((c + ((limbs x).getD i 0)) / 2 ^ 32) (out ++ [(c + ((limbs x).getD i 0)) % 4294967296])) (by have := hI.le (by omega); omega : max (limbs x).length (limbs y).length + 1 - (i + 1) < max (limbs x).length (limbs y).length + 1 - i)))))))) (fun (h22 : ¬ (i < (limbs x).length)) => And.intro (fun (h23 : i < (limbs y).length) => I (by omega : i < (limbs y).length) (I (by omega : out.length = out.length) (I (show (i + 1) ≤ 34359738371 by omega : Bnd (.nat .i64) (.n 34359738371) (i + 1)) (I (by (try simp only [List.length_append, List.length_cons, List.length_nil]) <;> omega : out.length + [(c + ((limbs y).getD i 0)) % 4294967296].length = (out ++ [(c + ((limbs y).getD i 0)) % 4294967296]).length) (I (by (try simp only [List.length_append, List.length_cons, List.length_nil]) <;> omega : out.length + [(c + ((limbs y).getD i 0)) % 4294967296].length ≤ 34359738371) (And.intro (hI.step2 (by omega) (by first | rfl | (have hq1 := @qo (limbs x) i; have hq2 := @qo (limbs y) i; omega)) (by omega) : AddX x y (i + 1) ((c + ((limbs y).getD i 0)) / 2 ^ 32) (out ++ [(c + ((limbs y).getD i 0)) % 4294967296])) (by have := hI.le (by omega); omega : max (limbs x).length (limbs y).length + 1 - (i + 1) < max (limbs x).length (limbs y).length + 1 - i))))))) (fun (h24 : ¬ (i < (limbs y).length)) => I (by omega : out.length = out.length) (I (show (i + 1) ≤ 34359738371 by omega : Bnd (.nat .i64) (.n 34359738371) (i + 1)) (I (by (try simp only [List.length_append, List.length_cons, List.length_nil]) <;> omega : out.length + [c].length = (out ++ [c]).length) (I (by (try simp only [List.length_append, List.length_cons, List.length_nil]) <;> omega : out.length + [c].length ≤ 34359738371) (And.intro (hI.step2 (by omega) (by first | rfl | (have hq1 := @qo (limbs x) i; have hq2 := @qo (limbs y) i; omega)) (by omega) : AddX x y (i + 1) (c / 2 ^ 32) (out ++ [c])) (by have := hI.le (by omega); omega : max (limbs x).length (limbs y).length + 1 - (i + 1) < max (limbs x).length (limbs y).length + 1 - i)))))))) (fun (h25 : ¬ (c ≠ 0)) => I (by omega : out.length = out.length) (I (hI.fin (by omega) (by omega) (by omega) : out = limbs (x + y)) (I (q9 (by decide) (Da hx0 hx1) : lt2 (x + y) 1099511627777) ((Eq.refl (x + y)))))))))))⟩)
abbrev Wu : Ctr Tryz.prog := FI.c Ww
abbrev Lv : FO := ⟨225, [.mag, (.nat .i64)], [(.n 1099511627776), (.n 17179869184)], fun _ => [], fun k b z => (fun (x : Nat) (j : Nat) => .c (.one (.gs k ((limbs (x * 4294967296 ^ j)).length) 1 (((b0 b).nb + 32 * (b1 b).nb) / 32 + 1)))) z.1 z.2, fun b z => (fun (x : Nat) (j : Nat) => .gro (.nat .u32) (.n 4294967295) (limbs (x * 4294967296 ^ j))) z.1 z.2⟩
theorem Lx : Lv.OK Tryz.prog := mkO hmix 12 11 Tryz.func225 rfl rfl (by decide) [] (fun _ => rfl) (fun _ _ _ => rfl) (fun _ _ => rfl) (fun _ _ _ => ⟨rfl, rfl⟩) (fun (x : Nat) (j : Nat) k b hx hp => ⟨qe (qf (Nat.le_of_lt (Gs (Bnds.h2 hx).1.mag (Bnds.h2 hx).2.nat))) rfl, fun u hu => Nat.le_of_lt_succ (qO _ u hu)⟩) (fun (x : Nat) (j : Nat) hx hp => by
 have hx0 : lt2 x 1099511627776 := hx.1
 have hl0 : (limbs x).length ≤ 34359738369 := qf (Nat.le_of_lt hx0)
 have hx1 : j ≤ 17179869184 := hx.2
 exact bodyO.g (.cond (.nil) (.h 3 1 (.mk (.gro (.nat .u32) (.n 4294967295))) (.nil))) (kcast (by kernel_rfl) (And.intro (fun (h1 : (limbs x).length = 0) => And.intro (by rw [nl0.1 (show (limbs x).length = 0 by assumption), Nat.zero_mul]; rfl : ([] : List Nat) = limbs (x * 4294967296 ^ j)) ((by rw [nl0.1 (show (limbs x).length = 0 by assumption), Nat.zero_mul]; rfl : 0 = (limbs (x * 4294967296 ^ j)).length))) (fun (h2 : ¬ ((limbs x).length = 0)) => I (by omega : j = j) (I ((List.length_replicate ..).symm : j = (List.replicate j (0 : Nat)).length) (And.intro (DD (mt nl0.2 (by assumption)) : (List.replicate j (0 : Nat)) ++ (limbs x) = limbs (x * 4294967296 ^ j)) ((by rw [← DD (mt nl0.2 (by assumption))]; simp : j + (limbs x).length = (limbs (x * 4294967296 ^ j)).length))))))))
abbrev Lu (k : Nat) (b : List Bd) (x : Nat) (j : Nat) : WV := .c (.one (.gs k ((limbs (x * 4294967296 ^ j)).length) 1 (((b0 b).nb + 32 * (b1 b).nb) / 32 + 1)))
abbrev Lt (b : List Bd) (x : Nat) (j : Nat) : WB := .gro (.nat .u32) (.n 4294967295) (limbs (x * 4294967296 ^ j))
theorem IM (d : Nat) (x : Nat) (j : Nat) (hx : Bnds [.mag, (.nat .i64)] [(.n 1099511627776), (.n 17179869184)] (x, j)) (hp : ∀ c0 ∈ ([] : List Prop), c0) : SigG Tryz.prog 225 (argsE [.mag, (.nat .i64)] (x, j)) [] (Lu d [(.n 1099511627776), (.n 17179869184)] x j).exp [(d, some (Lt [(.n 1099511627776), (.n 17179869184)] x j).exp)] := Lx.sig d (x, j) hx hp
abbrev K6 (b : Bd) (x k : Nat) : WV := .c (.one (.dt .mag b (x * 4294967296 ^ k)))
theorem J3 (x k : Nat) (hx : Bnds [.mag, .nat .i64] [.n 1099511627776, .n 17179869184] (x, k)) (b : Bd) : Sig Tryz.prog 225 (argsE [.mag, .nat .i64] (x, k)) (K6 b x k).exp := by
 have h := frzO (IM 0 x k hx (by intro p hp; cases hp)) (by decide) rfl .u
 rw [magE (x * 4294967296 ^ k) .u b] at h; exact h
theorem NR (x : Nat) (z : Int) (h : 0 ≤ z) : argsE [.mag, .int .i64] (x, z) = argsE [.mag, .nat .i64] (x, z.toNat) := by
 obtain ⟨n, rfl⟩ := Int.eq_ofNat_of_zero_le h; rfl
def vE : Ctr Tryz.prog := ⟨225, [.mag, .int .i64], [.n 1099511627776, .n 17179869184], fun z => [0 ≤ z.2], fun b z => K6 (.n ((b0 b).nb + 32 * (b1 b).nb)) z.1 z.2.toNat,
 fun z hx hp => by
  have h0 : 0 ≤ z.2 := hp _ List.mem_cons_self
  have h := J3 z.1 z.2.toNat ⟨hx.1, by have h2 : Int.natAbs z.2 ≤ 17179869184 := hx.2; show z.2.toNat ≤ _; omega⟩ (.n (1099511627776 + 32 * 17179869184))
  rw [← NR z.1 z.2 h0] at h; exact h,
 fun _ _ => rfl, fun b z hx hp => qe (Gs (Bnds.h2 hx).1.mag (by have h2 := (Bnds.h2 hx).2.int; show z.2.toNat ≤ _; omega)) rfl⟩
abbrev XZ : FI := ⟨224, [.mag, (.nat .i64)], [(.n 1030792151040), (.n 68719476736)], fun _ => [], fun b z => (fun (x : Nat) (s : Nat) => .c (.one (.dt .mag (.n ((b0 b).nb + (b1 b).nb)) (x * 2 ^ s)))) z.1 z.2⟩
theorem Y0 : XZ.OK Tryz.prog := mkF hmix 40 Tryz.func224 rfl rfl (by decide) [] (fun _ => rfl) (fun _ => rfl) (fun _ _ => rfl) (fun (x : Nat) (s : Nat) b hx hp => qe (UK (Bnds.h2 hx).1.mag (Bnds.h2 hx).2.nat) rfl) (fun (x : Nat) (s : Nat) hx hp => by
 have hx0 : lt2 x 1030792151040 := hx.1
 have hl0 : (limbs x).length ≤ 32212254721 := qf (Nat.le_of_lt hx0)
 have hx1 : s ≤ 68719476736 := hx.2
 exact ⟨.h 1 2 (.mk (.gro (.nat .u32) (.n 4294967295))) (.loop [.s 7 (.nat .i64) (.n 32212254721), .s 6 (.nat .u64) (.n 4294967295), .g 5 90005 (.nat .u32) (.n 4294967295) 100931731457] (fun ((i, c, out) : Nat × Nat × List Nat) => UpX x s i c out) (fun ((i, c, out) : Nat × Nat × List Nat) => (limbs x).length - i) (fun ((i, c, out) : Nat × Nat × List Nat) => .cond (.h 6 8 (.i (.n (((limbs x).getD i 0) * 2 ^ (s % 32)) 18446744073709551615)) (.h 6 9 (.i (.n (c + (((limbs x).getD i 0) * 2 ^ (s % 32))) 18446744073709551615)) (.h 7 3 (.mk (.im (.nat .u32) (.n 4294967295))) (.nil)))) (.h 9 3 (.mk (.im (.nat .u32) (.n 4294967295))) (.pre 1009005 (.frz 38 true [38]) (.h 9 5 (.c wc) (.nil)))))), kcast (by kernel_rfl) (I (by omega : s / 32 = s / 32) (I (by simp <;> omega : s / 32 = (List.replicate (s / 32) (0 : Nat)).length) (I (UpX.start x s : UpX x s 0 0 (List.replicate (s / 32) (0 : Nat))) (fun (i : Nat) (c : Nat) (out : List Nat) (hb1 : HB [.s 7 (.nat .i64) (.n 32212254721), .s 6 (.nat .u64) (.n 4294967295), .g 5 90005 (.nat .u32) (.n 4294967295) 100931731457] (i, c, out)) (hI : UpX x s i c out) => have hv4 := (show i ≤ 32212254721 from hb1.1); have hv5 := (show c ≤ 4294967295 from hb1.2.1); have hv6 := (show out.length ≤ 100931731457 from hb1.2.2.1); have hIl := hI.hl; have hIi := hI.hi; have hIc := hI.hc; have hg1 := q7 x i; have hbd := XU hI; And.intro (fun (h2 : i < (limbs x).length) => I (by omega : i < (limbs x).length) (I (Ei _ _ (by omega) (AB hg1 (by omega)) : qx .shl .u64 (((limbs x).getD i 0 : Nat) : Int) ((s % 32 : Nat) : Int) ((((limbs x).getD i 0) * 2 ^ (s % 32) : Nat) : Int)) (I (Nat.le_of_lt_succ (AB hg1 (by omega)) : ((limbs x).getD i 0) * 2 ^ (s % 32) ≤ 18446744073709551615) (I (Eh _ _ rfl hIc hbd : qx .or .u64 (c : Int) ((((limbs x).getD i 0) * 2 ^ (s % 32) : Nat) : Int) ((c + (((limbs x).getD i 0) * 2 ^ (s % 32)) : Nat) : Int)) (I (Nat.le_of_lt_succ hbd : c + (((limbs x).getD i 0) * 2 ^ (s % 32)) ≤ 18446744073709551615) (I (by omega : out.length = out.length) (I (show (i + 1) ≤ 32212254721 by omega : Bnd (.nat .i64) (.n 32212254721) (i + 1)) (I (by (try simp only [List.length_append, List.length_cons, List.length_nil]) <;> omega : out.length + [(c + (((limbs x).getD i 0) * 2 ^ (s % 32))) % 4294967296].length = (out ++ [(c + (((limbs x).getD i 0) * 2 ^ (s % 32))) % 4294967296]).length) (I (by (try simp only [List.length_append, List.length_cons, List.length_nil]) <;> omega : out.length + [(c + (((limbs x).getD i 0) * 2 ^ (s % 32))) % 4294967296].length ≤ 100931731457) (And.intro (hI.step (by omega) rfl : UpX x s (i + 1) ((c + (((limbs x).getD i 0) * 2 ^ (s % 32))) / 2 ^ 32) (out ++ [(c + (((limbs x).getD i 0) * 2 ^ (s % 32))) % 4294967296])) (by omega : (limbs x).length - (i + 1) < (limbs x).length - i))))))))))) (fun (h3 : ¬ (i < (limbs x).length)) => have hF := hI.fin (by omega); I (by omega : out.length = out.length) (I (by (try simp only [List.length_append, List.length_cons, List.length_nil]) <;> omega : out.length + [c].length = (out ++ [c]).length) (I (hF.2 : ∀ u ∈ out ++ [c], u < 4294967296) ((hF.1 : valL (out ++ [c]) = x * 2 ^ s)))))))))⟩)
abbrev XY : Ctr Tryz.prog := FI.c Y0
abbrev TC : FI := ⟨227, [.mag, (.nat .i64)], [(.n 1099511627776), (.n 1099511627776)], fun _ => [], fun b z => (fun (x : Nat) (s : Nat) => .c (.one (.dt .mag (.n ((b0 b).nb)) (x / 2 ^ s)))) z.1 z.2⟩
theorem TD : TC.OK Tryz.prog := mkF hmix 55 Tryz.func227 rfl rfl (by decide) [] (fun _ => rfl) (fun _ => rfl) (fun _ _ => rfl) (fun (x : Nat) (s : Nat) b hx hp => qe ((Bnds.h2 hx).1.magLe (Nat.div_le_self _ _)).mag rfl) (fun (x : Nat) (s : Nat) hx hp => by
 have hx0 : lt2 x 1099511627776 := hx.1
 have hl0 : (limbs x).length ≤ 34359738369 := qf (Nat.le_of_lt hx0)
 have hx1 : s ≤ 1099511627776 := hx.2
 exact ⟨.cond (.nil) ((fun (w : Nat) => .h 3 3 (.mag w 1099511627776) (.h 4 2 (.mk (.arr (.nat .u32) (.n 4294967295))) (.loop [.s 6 (.nat .i64) (.n 34359738369), .a 19 (.nat .u32) (.n 4294967295)] (fun ((i, out) : Nat × List Nat) => DownX w (s % 32) i out) (fun ((i, out) : Nat × List Nat) => (limbs w).length - i) (fun ((i, out) : Nat × List Nat) => .cond (.cond (.h 10 8 (.i (.n (((limbs w).getD i 0) + (((limbs w).getD (i + 1) 0) * 2 ^ 32)) 18446744073709551615)) (.h 11 5 (.i (.n ((((limbs w).getD i 0) + (((limbs w).getD (i + 1) 0) * 2 ^ 32)) / 2 ^ (s % 32)) 18446744073709551615)) (.nil))) (.h 11 5 (.i (.n (((limbs w).getD i 0) / 2 ^ (s % 32)) 18446744073709551615)) (.nil))) (.pre 12 (.frz 19 true [5]) (.h 12 1 (.c wc) (.nil))))))) (x / 4294967296 ^ (s / 32))), kcast (by kernel_rfl) (And.intro (fun (h1 : (limbs x).length ≤ s / 32) => (LT (by omega) : 0 = x / 2 ^ s)) (fun (h2 : ¬ ((limbs x).length ≤ s / 32)) => (fun (w : Nat) (hw : w = x / 4294967296 ^ (s / 32)) => I (by omega : s / 32 ≤ (limbs x).length) (I (by rw [hw]; exact Bu _ _ : (limbs x).drop (s / 32) = limbs w) (I (by rw [hw]; exact Ab hx0 (Nat.div_le_self _ _) : lt2 w 1099511627776) (have hlw := (qf (Nat.le_of_lt (show lt2 w 1099511627776 by rw [hw]; exact Ab hx0 (Nat.div_le_self _ _))) : (limbs w).length ≤ 34359738369); I (by omega : (limbs w).length = (limbs w).length) (I (DownX.start w (s % 32) : DownX w (s % 32) 0 (List.replicate ((limbs w).length) (0 : Nat))) (fun (i : Nat) (out : List Nat) (hb3 : HB [.s 6 (.nat .i64) (.n 34359738369), .a 19 (.nat .u32) (.n 4294967295)] (i, out)) (hI : DownX w (s % 32) i out) => have hv8 := (show i ≤ 34359738369 from hb3.1); have hv9 := (show ∀ u ∈ out, u ≤ 4294967295 from hb3.2); have hIl := hI.hl; have hIi := hI.hi; have hg1 := q7 w i; have hg2 := q7 w (i + 1); And.intro (fun (h4 : i < (limbs w).length) => I (by omega : i < (limbs w).length) (And.intro (fun (h5 : i + 1 < (limbs w).length) => I (by omega : i + 1 < (limbs w).length) (I (Eh _ 32 rfl hg1 (by omega) : qx .or .u64 (((limbs w).getD i 0 : Nat) : Int) ((((limbs w).getD (i + 1) 0) * 2 ^ 32 : Nat) : Int) ((((limbs w).getD i 0) + (((limbs w).getD (i + 1) 0) * 2 ^ 32) : Nat) : Int)) (I (by omega : ((limbs w).getD i 0) + (((limbs w).getD (i + 1) 0) * 2 ^ 32) ≤ 18446744073709551615) (I (Hb _ _ (by simp [IntKind.bits]; omega) : qx .shr .u64 ((((limbs w).getD i 0) + (((limbs w).getD (i + 1) 0) * 2 ^ 32) : Nat) : Int) ((s % 32 : Nat) : Int) (((((limbs w).getD i 0) + (((limbs w).getD (i + 1) 0) * 2 ^ 32)) / 2 ^ (s % 32) : Nat) : Int)) (I (Nat.le_trans (Nat.div_le_self _ _) (by omega) : (((limbs w).getD i 0) + (((limbs w).getD (i + 1) 0) * 2 ^ 32)) / 2 ^ (s % 32) ≤ 18446744073709551615) (I (by omega : i < (limbs w).length) (I (by omega : i < out.length) (I (show (i + 1) ≤ 34359738369 by omega : Bnd (.nat .i64) (.n 34359738369) (i + 1)) (And.intro (hI.step (by omega) (by omega) (by first | rfl | (have hq1 := @qo (limbs w) (i + 1); omega)) : DownX w (s % 32) (i + 1) (out.set i (((((limbs w).getD i 0) + (((limbs w).getD (i + 1) 0) * 2 ^ 32)) / 2 ^ (s % 32)) % 4294967296))) (by omega : (limbs w).length - (i + 1) < (limbs w).length - i)))))))))) (fun (h6 : ¬ (i + 1 < (limbs w).length)) => I (Hb _ _ (by simp [IntKind.bits]; omega) : qx .shr .u64 (((limbs w).getD i 0 : Nat) : Int) ((s % 32 : Nat) : Int) ((((limbs w).getD i 0) / 2 ^ (s % 32) : Nat) : Int)) (I (Nat.le_trans (Nat.div_le_self _ _) (by omega) : ((limbs w).getD i 0) / 2 ^ (s % 32) ≤ 18446744073709551615) (I (by omega : i < (limbs w).length) (I (by omega : i < out.length) (I (show (i + 1) ≤ 34359738369 by omega : Bnd (.nat .i64) (.n 34359738369) (i + 1)) (And.intro (hI.step (by omega) (by omega) (by first | rfl | (have hq1 := @qo (limbs w) (i + 1); omega)) : DownX w (s % 32) (i + 1) (out.set i ((((limbs w).getD i 0) / 2 ^ (s % 32)) % 4294967296))) (by omega : (limbs w).length - (i + 1) < (limbs w).length - i))))))))) (fun (h7 : ¬ (i < (limbs w).length)) => I (by omega : (limbs w).length = out.length) (have hF := hI.fin (by omega); I (hI.hu : ∀ u ∈ out, u < 4294967296) ((by rw [hF, hw]; exact Hs x s : valL out = x / 2 ^ s)))))))))) (x / 4294967296 ^ (s / 32)) rfl))⟩)
abbrev TB : Ctr Tryz.prog := FI.c TD
abbrev Wz : FI := ⟨149, [.mag, .mag], [(.n 137438953536), (.n 137438953536)], fun z => (fun (x : Nat) (y : Nat) => [0 < y]) z.1 z.2, fun b z => (fun (x : Nat) (y : Nat) => .tup [.one (.dt .mag (b0 b) (x / y)), .one (.dt .mag (b1 b) (x % y)), .one (.kn .i64 0)]) z.1 z.2⟩
theorem WD : Wz.OK Tryz.prog := mkF hmix 163 Tryz.func149 rfl rfl (by decide) [(82, .c CV), (147, .c Ga), (150, .c H4), (193, .c IL), (221, .c IN), (222, .c NG), (223, .c Tx), (224, .c XY), (226, .c PN), (227, .c TB)] (fun _ => rfl) (fun _ => rfl) (fun _ _ => rfl) (fun (x : Nat) (y : Nat) b hx hp => qF (qe ((Bnds.h2 hx).1.magLe (Nat.div_le_self _ _)) rfl) (qF (qe ((Bnds.h2 hx).2.magLe (Nat.le_of_lt (Nat.mod_lt _ (hp _ (List.mem_cons_self))))) rfl) (qF Q7 jz))) (fun (x : Nat) (y : Nat) hx hp => by
 have hx0 : lt2 x 137438953536 := hx.1
 have hl0 : (limbs x).length ≤ 4294967299 := qf (Nat.le_of_lt hx0)
 have hx1 : lt2 y 137438953536 := hx.2
 have hl1 : (limbs y).length ≤ 4294967299 := qf (Nat.le_of_lt hx1)
 have hp0 : 0 < y := hp _ (List.mem_cons_self)
 have hyp := mt (nl0 (x := y)).1 (show ¬ y = 0 by omega)
 exact ⟨.cond (.dead) (.cond (.nil) (.cond (.nil) (.cond (.nil) (.h 12 3 (.i .sub) (.h 12 4 (.mag (y / 4294967296 ^ ((limbs y).length - 1)) 32) (.h 12 6 (.i .sub) ((fun (s : Nat) => .h 15 3 (.i .sub) ((fun (L : Nat) => .h 15 5 (.mk (.arr (.nat .u32) (.n 4294967295))) (.loop [.s 15 (.int .i64) (.n 17179869184), .s 5 .mag (.n 137438953568), .a 82 (.nat .u32) (.n 4294967295)] (fun ((z, r, ql) : Int × Nat × List Nat) => DX (x * 2 ^ s) (y * 2 ^ s) L z ql r) (fun ((z, r, ql) : Int × Nat × List Nat) => (z + 1).toNat) (fun ((z, r, ql) : Int × Nat × List Nat) => .cond (.cond (.h 21 4 (.ix (z.toNat + (limbs (y * 2 ^ s)).length)) (.cond (.h 23 7 (.ix (z.toNat + (limbs (y * 2 ^ s)).length - 1)) (.h 23 10 (.i (.n ((((limbs r).getD (z.toNat + (limbs (y * 2 ^ s)).length) 0) * 2 ^ 32) + ((limbs r).getD (z.toNat + (limbs (y * 2 ^ s)).length - 1) 0)) 18446744073709551615)) (.h 25 3 (.i .sub) (.h 26 5 (.c vE) (.loop [.s 17 (.nat .u64) (.n 4294967295), .s 18 .mag (.n 1099511627776)] (fun ((d, p) : Nat × Nat) => EX (y * 2 ^ s) z.toNat r d p) (fun ((d, p) : Nat × Nat) => d) (fun ((d, p) : Nat × Nat) => .cond (.h 28 1 (.i .sub) (.h 29 3 (.c vE) (.nil))) (.h 30 4 (.ix z.toNat) (.nil)))))))) (.h 25 3 (.i .sub) (.h 26 5 (.c vE) (.loop [.s 17 (.nat .u64) (.n 4294967295), .s 18 .mag (.n 1099511627776)] (fun ((d, p) : Nat × Nat) => EX (y * 2 ^ s) z.toNat r d p) (fun ((d, p) : Nat × Nat) => d) (fun ((d, p) : Nat × Nat) => .cond (.h 28 1 (.i .sub) (.h 29 3 (.c vE) (.nil))) (.h 30 4 (.ix z.toNat) (.nil)))))))) (.cond (.h 23 7 (.ix (z.toNat + (limbs (y * 2 ^ s)).length - 1)) (.h 23 10 (.i (.n (0 + ((limbs r).getD (z.toNat + (limbs (y * 2 ^ s)).length - 1) 0)) 18446744073709551615)) (.h 25 3 (.i .sub) (.h 26 5 (.c vE) (.loop [.s 17 (.nat .u64) (.n 4294967295), .s 18 .mag (.n 1099511627776)] (fun ((d, p) : Nat × Nat) => EX (y * 2 ^ s) z.toNat r d p) (fun ((d, p) : Nat × Nat) => d) (fun ((d, p) : Nat × Nat) => .cond (.h 28 1 (.i .sub) (.h 29 3 (.c vE) (.nil))) (.h 30 4 (.ix z.toNat) (.nil)))))))) (.h 25 3 (.i .sub) (.h 26 5 (.c vE) (.loop [.s 17 (.nat .u64) (.n 4294967295), .s 18 .mag (.n 1099511627776)] (fun ((d, p) : Nat × Nat) => EX (y * 2 ^ s) z.toNat r d p) (fun ((d, p) : Nat × Nat) => d) (fun ((d, p) : Nat × Nat) => .cond (.h 28 1 (.i .sub) (.h 29 3 (.c vE) (.nil))) (.h 30 4 (.ix z.toNat) (.nil)))))))) (.pre 32 (.frz 82 true [4]) (.h 32 1 (.c wc) (.nil)))))) ((((limbs (x * 2 ^ s)).length) - ((limbs (y * 2 ^ s)).length)) + 1))) (32 - (bl (y / 4294967296 ^ ((limbs y).length - 1))))))))))), kcast (by kernel_rfl) (And.intro (fun (h1 : (limbs y).length = 0) => (absurd (nl0.1 h1) (by omega) : False)) (fun (h2 : ¬ ((limbs y).length = 0)) => And.intro (fun (h3 : cmpN x y < 0) => And.intro ((Nat.div_eq_of_lt (jg.1 (by omega))).symm : 0 = x / y) ((Nat.mod_eq_of_lt (jg.1 (by omega))).symm : x = x % y)) (fun (h4 : ¬ (cmpN x y < 0)) => have hyx := (show y ≤ x from Nat.le_of_not_lt (mt jg.2 (by assumption))); have hly := jQ hyx; And.intro (fun (h5 : xk x = true) => have hlx := (show (limbs x).length ≤ 2 from of_decide_eq_true (by assumption)); have hxx := (xw_y hlx).1; have hxy := (xw_y (x := y) (by omega)).1; I (by omega : 0 < xw y) (I (by omega : 0 < xw y) (And.intro (by rw [(xw_y (x := x) (by assumption)).1, (xw_y (x := y) (by omega)).1] : (xw x) / (xw y) = x / y) (by rw [(xw_y (x := x) (by assumption)).1, (xw_y (x := y) (by omega)).1] : (xw x) % (xw y) = x % y)))) (fun (h6 : ¬ (xk x = true)) => And.intro (fun (h7 : (limbs y).length = 1) => have hy1 := (show (limbs y).getD 0 0 = y from KC (by omega)); I (by omega : 0 < (limbs y).length) (I (by omega : 0 < (limbs y).getD 0 0) (And.intro (by rw [hy1] : x / ((limbs y).getD 0 0) = x / y) (by rw [hy1] : x % ((limbs y).getD 0 0) = x % y)))) (fun (h8 : ¬ ((limbs y).length = 1)) => have hb32 := (Ej FD : bl (y / 4294967296 ^ ((limbs y).length - 1)) ≤ 32); I (by omega : 1 ≤ (limbs y).length) (I (by omega : ((limbs y).length) - 1 ≤ (limbs y).length) (I (Bu _ _ : (limbs y).drop (((limbs y).length) - 1) = limbs (y / 4294967296 ^ ((limbs y).length - 1))) (I (FD : lt2 (y / 4294967296 ^ ((limbs y).length - 1)) 32) (I (Ej FD : bl (y / 4294967296 ^ ((limbs y).length - 1)) ≤ 32) ((fun (s : Nat) (hs : s = 32 - (bl (y / 4294967296 ^ ((limbs y).length - 1)))) => have hs32 := (show s ≤ 32 by omega); have hV0 := (Nat.mul_pos hp0 (Nat.pow_pos (by omega)) : 0 < y * 2 ^ s); have hVA := (jQ (Nat.mul_le_mul_right _ hyx) : (limbs (y * 2 ^ s)).length ≤ (limbs (x * 2 ^ s)).length); have hV1 := (Nat.pos_of_ne_zero (mt nl0.1 (by omega)) : 0 < (limbs (y * 2 ^ s)).length); have hvt := zA hV1; I (by omega : (limbs (y * 2 ^ s)).length ≤ (limbs (x * 2 ^ s)).length) ((fun (L : Nat) (hL : L = (((limbs (x * 2 ^ s)).length) - ((limbs (y * 2 ^ s)).length)) + 1) => I (by omega : L = L) (I (by subst hL; exact DX.start (n := (limbs (y * 2 ^ s)).length) (by omega) rfl (by omega) rfl : DX (x * 2 ^ s) (y * 2 ^ s) L ((((limbs (x * 2 ^ s)).length : Nat) : Int) - (((limbs (y * 2 ^ s)).length : Nat) : Int)) (List.replicate L (0 : Nat)) (x * 2 ^ s)) (fun (z : Int) (r : Nat) (ql : List Nat) (hb9 : HB [.s 15 (.int .i64) (.n 17179869184), .s 5 .mag (.n 137438953568), .a 82 (.nat .u32) (.n 4294967295)] (z, r, ql)) (hD : DX (x * 2 ^ s) (y * 2 ^ s) L z ql r) => have hv34 := (show Int.natAbs z ≤ 17179869184 from hb9.1); have hv35 := (show ∀ u ∈ ql, u ≤ 4294967295 from hb9.2.2); have hDz := hD.hz; have hDz1 := hD.hz1; have hDl := hD.hl; And.intro (fun (h10 : 0 ≤ z) => have hr1 := q7 r (z.toNat + (limbs (y * 2 ^ s)).length); have hr2 := q7 r (z.toNat + (limbs (y * 2 ^ s)).length - 1); And.intro (fun (h11 : z + (((limbs (y * 2 ^ s)).length : Nat) : Int) < (((limbs r).length : Nat) : Int)) => I (by omega : z + (((limbs (y * 2 ^ s)).length : Nat) : Int) = ((z.toNat + (limbs (y * 2 ^ s)).length : Nat) : Int)) (I (by omega : z.toNat + (limbs (y * 2 ^ s)).length < (limbs r).length) (And.intro (fun (h12 : (z + (((limbs (y * 2 ^ s)).length : Nat) : Int)) - 1 < (((limbs r).length : Nat) : Int)) => I (by omega : (z + (((limbs (y * 2 ^ s)).length : Nat) : Int)) - 1 = ((z.toNat + (limbs (y * 2 ^ s)).length - 1 : Nat) : Int)) (I (by omega : z.toNat + (limbs (y * 2 ^ s)).length - 1 < (limbs r).length) (I (Aj _ 32 rfl (q7 _ _) (by omega) : qx .or .u64 ((((limbs r).getD (z.toNat + (limbs (y * 2 ^ s)).length) 0) * 2 ^ 32 : Nat) : Int) (((limbs r).getD (z.toNat + (limbs (y * 2 ^ s)).length - 1) 0 : Nat) : Int) (((((limbs r).getD (z.toNat + (limbs (y * 2 ^ s)).length) 0) * 2 ^ 32) + ((limbs r).getD (z.toNat + (limbs (y * 2 ^ s)).length - 1) 0) : Nat) : Int)) (I (by omega : (((limbs r).getD (z.toNat + (limbs (y * 2 ^ s)).length) 0) * 2 ^ 32) + ((limbs r).getD (z.toNat + (limbs (y * 2 ^ s)).length - 1) 0) ≤ 18446744073709551615) (have hT := (show (((limbs r).getD (z.toNat + (limbs (y * 2 ^ s)).length) 0) * 2 ^ 32) + ((limbs r).getD (z.toNat + (limbs (y * 2 ^ s)).length - 1) 0) = (limbs r).getD (z.toNat + (limbs (y * 2 ^ s)).length) 0 * 4294967296 + (limbs r).getD (z.toNat + (limbs (y * 2 ^ s)).length - 1) 0 from by (have hq1 := @qo (limbs r) (z.toNat + (limbs (y * 2 ^ s)).length); have hq2 := @qo (limbs r) (z.toNat + (limbs (y * 2 ^ s)).length - 1); omega)); I (by omega : 1 ≤ (limbs (y * 2 ^ s)).length) (I (by omega : ((limbs (y * 2 ^ s)).length) - 1 < (limbs (y * 2 ^ s)).length) (I (by omega : 0 < (limbs (y * 2 ^ s)).getD (((limbs (y * 2 ^ s)).length) - 1) 0) (I (by omega : 0 ≤ z) (I (hD.est (by omega) rfl hV0 (by omega) rfl hT : EX (y * 2 ^ s) z.toNat r (min (((((limbs r).getD (z.toNat + (limbs (y * 2 ^ s)).length) 0) * 2 ^ 32) + ((limbs r).getD (z.toNat + (limbs (y * 2 ^ s)).length - 1) 0)) / ((limbs (y * 2 ^ s)).getD (((limbs (y * 2 ^ s)).length) - 1) 0)) 4294967295) (((y * 2 ^ s) * (min (((((limbs r).getD (z.toNat + (limbs (y * 2 ^ s)).length) 0) * 2 ^ 32) + ((limbs r).getD (z.toNat + (limbs (y * 2 ^ s)).length - 1) 0)) / ((limbs (y * 2 ^ s)).getD (((limbs (y * 2 ^ s)).length) - 1) 0)) 4294967295)) * 4294967296 ^ z.toNat)) (fun (d : Nat) (p : Nat) (hb13 : HB [.s 17 (.nat .u64) (.n 4294967295), .s 18 .mag (.n 1099511627776)] (d, p)) (hE : EX (y * 2 ^ s) z.toNat r d p) => have hv16 := (show d ≤ 4294967295 from hb13.1); And.intro (fun (h14 : 0 < cmpN p r) => have hG := hE.gt hV0 (zJ.1 (by assumption)); I (by omega : 1 ≤ d) (I (by omega : 0 ≤ z) (I (hG.2.1 : (y * 2 ^ s) * 4294967296 ^ z.toNat ≤ p) (And.intro (hG.2.2 : EX (y * 2 ^ s) z.toNat r (d - 1) (p - ((y * 2 ^ s) * 4294967296 ^ z.toNat))) (by have := hG.1; omega : d - 1 < d))))) (fun (h15 : ¬ (0 < cmpN p r)) => have hle := (show p ≤ r from Nat.le_of_not_lt (mt zJ.2 (by assumption))); I (by omega : z = ((z.toNat : Nat) : Int)) (I (by omega : z.toNat < L) (I (by omega : z.toNat < ql.length) (I (hle : p ≤ r) (I (show Int.natAbs (z - 1) ≤ 17179869184 by omega : Bnd (.int .i64) (.n 17179869184) (z - 1)) (And.intro (hD.next (by omega) rfl hV0 hE hle : DX (x * 2 ^ s) (y * 2 ^ s) L (z - 1) (ql.set z.toNat d) (r - p)) (by omega : ((z - 1) + 1).toNat < (z + 1).toNat))))))))))))))))) (fun (h17 : ¬ ((z + (((limbs (y * 2 ^ s)).length : Nat) : Int)) - 1 < (((limbs r).length : Nat) : Int))) => have hT := (show ((limbs r).getD (z.toNat + (limbs (y * 2 ^ s)).length) 0) * 2 ^ 32 = (limbs r).getD (z.toNat + (limbs (y * 2 ^ s)).length) 0 * 4294967296 + (limbs r).getD (z.toNat + (limbs (y * 2 ^ s)).length - 1) 0 from by (have hq1 := @qo (limbs r) (z.toNat + (limbs (y * 2 ^ s)).length); have hq2 := @qo (limbs r) (z.toNat + (limbs (y * 2 ^ s)).length - 1); omega)); I (by omega : 1 ≤ (limbs (y * 2 ^ s)).length) (I (by omega : ((limbs (y * 2 ^ s)).length) - 1 < (limbs (y * 2 ^ s)).length) (I (by omega : 0 < (limbs (y * 2 ^ s)).getD (((limbs (y * 2 ^ s)).length) - 1) 0) (I (by omega : 0 ≤ z) (I (hD.est (by omega) rfl hV0 (by omega) rfl hT : EX (y * 2 ^ s) z.toNat r (min ((((limbs r).getD (z.toNat + (limbs (y * 2 ^ s)).length) 0) * 2 ^ 32) / ((limbs (y * 2 ^ s)).getD (((limbs (y * 2 ^ s)).length) - 1) 0)) 4294967295) (((y * 2 ^ s) * (min ((((limbs r).getD (z.toNat + (limbs (y * 2 ^ s)).length) 0) * 2 ^ 32) / ((limbs (y * 2 ^ s)).getD (((limbs (y * 2 ^ s)).length) - 1) 0)) 4294967295)) * 4294967296 ^ z.toNat)) (fun (d : Nat) (p : Nat) (hb18 : HB [.s 17 (.nat .u64) (.n 4294967295), .s 18 .mag (.n 1099511627776)] (d, p)) (hE : EX (y * 2 ^ s) z.toNat r d p) => have hv21 := (show d ≤ 4294967295 from hb18.1); And.intro (fun (h19 : 0 < cmpN p r) => have hG := hE.gt hV0 (zJ.1 (by assumption)); I (by omega : 1 ≤ d) (I (by omega : 0 ≤ z) (I (hG.2.1 : (y * 2 ^ s) * 4294967296 ^ z.toNat ≤ p) (And.intro (hG.2.2 : EX (y * 2 ^ s) z.toNat r (d - 1) (p - ((y * 2 ^ s) * 4294967296 ^ z.toNat))) (by have := hG.1; omega : d - 1 < d))))) (fun (h20 : ¬ (0 < cmpN p r)) => have hle := (show p ≤ r from Nat.le_of_not_lt (mt zJ.2 (by assumption))); I (by omega : z = ((z.toNat : Nat) : Int)) (I (by omega : z.toNat < L) (I (by omega : z.toNat < ql.length) (I (hle : p ≤ r) (I (show Int.natAbs (z - 1) ≤ 17179869184 by omega : Bnd (.int .i64) (.n 17179869184) (z - 1)) (And.intro (hD.next (by omega) rfl hV0 hE hle : DX (x * 2 ^ s) (y * 2 ^ s) L (z - 1) (ql.set z.toNat d) (r - p)) (by omega : ((z - 1) + 1).toNat < (z + 1).toNat)))))))))))))))) (fun (h22 : ¬ (z + (((limbs (y * 2 ^ s)).length : Nat) : Int) < (((limbs r).length : Nat) : Int))) => And.intro (fun (h23 : (z + (((limbs (y * 2 ^ s)).length : Nat) : Int)) - 1 < (((limbs r).length : Nat) : Int)) => I (by omega : (z + (((limbs (y * 2 ^ s)).length : Nat) : Int)) - 1 = ((z.toNat + (limbs (y * 2 ^ s)).length - 1 : Nat) : Int)) (I (by omega : z.toNat + (limbs (y * 2 ^ s)).length - 1 < (limbs r).length) (I (TV (q7 _ _) : qx .or .u64 0 (((limbs r).getD (z.toNat + (limbs (y * 2 ^ s)).length - 1) 0 : Nat) : Int) ((0 + ((limbs r).getD (z.toNat + (limbs (y * 2 ^ s)).length - 1) 0) : Nat) : Int)) (I (by omega : 0 + ((limbs r).getD (z.toNat + (limbs (y * 2 ^ s)).length - 1) 0) ≤ 18446744073709551615) (have hT := (show 0 + ((limbs r).getD (z.toNat + (limbs (y * 2 ^ s)).length - 1) 0) = (limbs r).getD (z.toNat + (limbs (y * 2 ^ s)).length) 0 * 4294967296 + (limbs r).getD (z.toNat + (limbs (y * 2 ^ s)).length - 1) 0 from by (have hq1 := @qo (limbs r) (z.toNat + (limbs (y * 2 ^ s)).length); have hq2 := @qo (limbs r) (z.toNat + (limbs (y * 2 ^ s)).length - 1); omega)); I (by omega : 1 ≤ (limbs (y * 2 ^ s)).length) (I (by omega : ((limbs (y * 2 ^ s)).length) - 1 < (limbs (y * 2 ^ s)).length) (I (by omega : 0 < (limbs (y * 2 ^ s)).getD (((limbs (y * 2 ^ s)).length) - 1) 0) (I (by omega : 0 ≤ z) (I (hD.est (by omega) rfl hV0 (by omega) rfl hT : EX (y * 2 ^ s) z.toNat r (min ((0 + ((limbs r).getD (z.toNat + (limbs (y * 2 ^ s)).length - 1) 0)) / ((limbs (y * 2 ^ s)).getD (((limbs (y * 2 ^ s)).length) - 1) 0)) 4294967295) (((y * 2 ^ s) * (min ((0 + ((limbs r).getD (z.toNat + (limbs (y * 2 ^ s)).length - 1) 0)) / ((limbs (y * 2 ^ s)).getD (((limbs (y * 2 ^ s)).length) - 1) 0)) 4294967295)) * 4294967296 ^ z.toNat)) (fun (d : Nat) (p : Nat) (hb24 : HB [.s 17 (.nat .u64) (.n 4294967295), .s 18 .mag (.n 1099511627776)] (d, p)) (hE : EX (y * 2 ^ s) z.toNat r d p) => have hv27 := (show d ≤ 4294967295 from hb24.1); And.intro (fun (h25 : 0 < cmpN p r) => have hG := hE.gt hV0 (zJ.1 (by assumption)); I (by omega : 1 ≤ d) (I (by omega : 0 ≤ z) (I (hG.2.1 : (y * 2 ^ s) * 4294967296 ^ z.toNat ≤ p) (And.intro (hG.2.2 : EX (y * 2 ^ s) z.toNat r (d - 1) (p - ((y * 2 ^ s) * 4294967296 ^ z.toNat))) (by have := hG.1; omega : d - 1 < d))))) (fun (h26 : ¬ (0 < cmpN p r)) => have hle := (show p ≤ r from Nat.le_of_not_lt (mt zJ.2 (by assumption))); I (by omega : z = ((z.toNat : Nat) : Int)) (I (by omega : z.toNat < L) (I (by omega : z.toNat < ql.length) (I (hle : p ≤ r) (I (show Int.natAbs (z - 1) ≤ 17179869184 by omega : Bnd (.int .i64) (.n 17179869184) (z - 1)) (And.intro (hD.next (by omega) rfl hV0 hE hle : DX (x * 2 ^ s) (y * 2 ^ s) L (z - 1) (ql.set z.toNat d) (r - p)) (by omega : ((z - 1) + 1).toNat < (z + 1).toNat))))))))))))))))) (fun (h28 : ¬ ((z + (((limbs (y * 2 ^ s)).length : Nat) : Int)) - 1 < (((limbs r).length : Nat) : Int))) => have hT := (show 0 = (limbs r).getD (z.toNat + (limbs (y * 2 ^ s)).length) 0 * 4294967296 + (limbs r).getD (z.toNat + (limbs (y * 2 ^ s)).length - 1) 0 from by (have hq1 := @qo (limbs r) (z.toNat + (limbs (y * 2 ^ s)).length); have hq2 := @qo (limbs r) (z.toNat + (limbs (y * 2 ^ s)).length - 1); omega)); I (by omega : 1 ≤ (limbs (y * 2 ^ s)).length) (I (by omega : ((limbs (y * 2 ^ s)).length) - 1 < (limbs (y * 2 ^ s)).length) (I (by omega : 0 < (limbs (y * 2 ^ s)).getD (((limbs (y * 2 ^ s)).length) - 1) 0) (I (by omega : 0 ≤ z) (I (hD.est (by omega) rfl hV0 (by omega) rfl hT : EX (y * 2 ^ s) z.toNat r (min (0 / ((limbs (y * 2 ^ s)).getD (((limbs (y * 2 ^ s)).length) - 1) 0)) 4294967295) (((y * 2 ^ s) * (min (0 / ((limbs (y * 2 ^ s)).getD (((limbs (y * 2 ^ s)).length) - 1) 0)) 4294967295)) * 4294967296 ^ z.toNat)) (fun (d : Nat) (p : Nat) (hb29 : HB [.s 17 (.nat .u64) (.n 4294967295), .s 18 .mag (.n 1099511627776)] (d, p)) (hE : EX (y * 2 ^ s) z.toNat r d p) => have hv32 := (show d ≤ 4294967295 from hb29.1); And.intro (fun (h30 : 0 < cmpN p r) => have hG := hE.gt hV0 (zJ.1 (by assumption)); I (by omega : 1 ≤ d) (I (by omega : 0 ≤ z) (I (hG.2.1 : (y * 2 ^ s) * 4294967296 ^ z.toNat ≤ p) (And.intro (hG.2.2 : EX (y * 2 ^ s) z.toNat r (d - 1) (p - ((y * 2 ^ s) * 4294967296 ^ z.toNat))) (by have := hG.1; omega : d - 1 < d))))) (fun (h31 : ¬ (0 < cmpN p r)) => have hle := (show p ≤ r from Nat.le_of_not_lt (mt zJ.2 (by assumption))); I (by omega : z = ((z.toNat : Nat) : Int)) (I (by omega : z.toNat < L) (I (by omega : z.toNat < ql.length) (I (hle : p ≤ r) (I (show Int.natAbs (z - 1) ≤ 17179869184 by omega : Bnd (.int .i64) (.n 17179869184) (z - 1)) (And.intro (hD.next (by omega) rfl hV0 hE hle : DX (x * 2 ^ s) (y * 2 ^ s) L (z - 1) (ql.set z.toNat d) (r - p)) (by omega : ((z - 1) + 1).toNat < (z + 1).toNat))))))))))))))) (fun (h33 : ¬ (0 ≤ z)) => I (by omega : L = ql.length) (have hF := hD.fin hp0 (by omega); I (hD.hu : ∀ u ∈ ql, u < 4294967296) (And.intro (hF.1 : valL ql = x / y) (hF.2 : r / 2 ^ s = x % y))))))) ((((limbs (x * 2 ^ s)).length) - ((limbs (y * 2 ^ s)).length)) + 1) rfl)) (32 - (bl (y / 4294967296 ^ ((limbs y).length - 1)))) rfl))))))))))⟩)
abbrev NJ : Ctr Tryz.prog := FI.c WD
abbrev WF : FI := ⟨148, [.mag, .mag], [(.n 137438953536), (.n 137438953536)], fun _ => [], fun b z => (fun (x : Nat) (y : Nat) => .c (.one (.dt .mag (.n (max (b0 b).nb (b1 b).nb)) (Nat.gcd x y)))) z.1 z.2⟩
theorem WG : WF.OK Tryz.prog := mkF hmix 51 Tryz.func148 rfl rfl (by decide) [(147, .c Ga), (149, .c NJ), (150, .c H4), (221, .c IN)] (fun _ => rfl) (fun _ => rfl) (fun _ _ => rfl) (fun (x : Nat) (y : Nat) b hx hp => qe (Jx (Bnds.h2 hx).1.mag (Bnds.h2 hx).2.mag) rfl) (fun (x : Nat) (y : Nat) hx hp => by
 have hx0 : lt2 x 137438953536 := hx.1
 have hl0 : (limbs x).length ≤ 4294967299 := qf (Nat.le_of_lt hx0)
 have hx1 : lt2 y 137438953536 := hx.2
 have hl1 : (limbs y).length ≤ 4294967299 := qf (Nat.le_of_lt hx1)
 exact ⟨.loop [.s 0 .mag (.n 137438953536), .s 1 .mag (.n 137438953536)] (fun ((a, b) : Nat × Nat) => Nat.gcd a b = Nat.gcd x y) (fun ((a, b) : Nat × Nat) => b) (fun ((a, b) : Nat × Nat) => .cond (.cond (.cond (.loop [.s 5 (.nat .u64) (.n 18446744073709551615), .s 7 (.nat .u64) (.n 18446744073709551615)] (fun ((u, v) : Nat × Nat) => Nat.gcd u v = Nat.gcd x y) (fun ((u, v) : Nat × Nat) => v) (fun ((u, v) : Nat × Nat) => .nil)) (.nil)) (.nil)) (.nil)), kcast (by kernel_rfl) (I (rfl : Nat.gcd x y = Nat.gcd x y) (fun (a : Nat) (b : Nat) (hb1 : HB [.s 0 .mag (.n 137438953536), .s 1 .mag (.n 137438953536)] (a, b)) (hC : Nat.gcd a b = Nat.gcd x y) => And.intro (fun (h2 : 0 < (limbs b).length) => And.intro (fun (h3 : xk a = true) => And.intro (fun (h4 : xk b = true) => I (by rw [(xw_y (x := a) (of_decide_eq_true (by assumption))).1, (xw_y (x := b) (of_decide_eq_true (by assumption))).1]; exact hC : Nat.gcd (xw a) (xw b) = Nat.gcd x y) (fun (u : Nat) (v : Nat) (hb5 : HB [.s 5 (.nat .u64) (.n 18446744073709551615), .s 7 (.nat .u64) (.n 18446744073709551615)] (u, v)) (hK : Nat.gcd u v = Nat.gcd x y) => have hv8 := (show u ≤ 18446744073709551615 from hb5.1); have hv9 := (show v ≤ 18446744073709551615 from hb5.2); And.intro (fun (h6 : v ≠ 0) => I (by omega : 0 < v) (And.intro ((vH u v).trans hK : Nat.gcd v (u % v) = Nat.gcd x y) (Nat.mod_lt _ (by omega) : u % v < v))) (fun (h7 : ¬ (v ≠ 0)) => (by rw [show v = 0 by omega, Nat.gcd_zero_right] at hK; exact hK : u = Nat.gcd x y)))) (fun (h10 : ¬ (xk b = true)) => have hb0 := (show 0 < b from Nat.pos_of_ne_zero (fun e => by have := nl0.2 e; omega)); I (hb0 : 0 < b) (And.intro ((vH a b).trans hC : Nat.gcd b (a % b) = Nat.gcd x y) (Nat.mod_lt _ hb0 : a % b < b)))) (fun (h11 : ¬ (xk a = true)) => have hb0 := (show 0 < b from Nat.pos_of_ne_zero (fun e => by have := nl0.2 e; omega)); I (hb0 : 0 < b) (And.intro ((vH a b).trans hC : Nat.gcd b (a % b) = Nat.gcd x y) (Nat.mod_lt _ hb0 : a % b < b)))) (fun (h12 : ¬ (0 < (limbs b).length)) => (by have e := nl0.1 (show (limbs b).length = 0 by omega); rw [e, Nat.gcd_zero_right] at hC; exact hC : a = Nat.gcd x y))))⟩)
abbrev WE : Ctr Tryz.prog := FI.c WG
abbrev TP : FI := ⟨16, [.rat], [(.n 68719476736)], fun _ => [], fun b z => (fun (x : Rat) => .c (.one (.dt (.int .i64) (.n 1) (sgnQ x)))) z⟩
theorem TQ : TP.OK Tryz.prog := mkF hmix 9 Tryz.func16 rfl rfl (by decide) [] (fun _ => rfl) (fun _ => rfl) (fun _ _ => rfl) (fun (x : Rat) b hx hp => qe (If x) rfl) (fun (x : Rat) hx hp => by
 exact ⟨.nil, kcast (by kernel_rfl) (And.intro (fun (h1 : (limbs x.num.natAbs).length = 0) => (by rw [sgnQ, if_pos (nl0.1 (by assumption))] : 0 = sgnQ x)) (fun (h2 : ¬ ((limbs x.num.natAbs).length = 0)) => And.intro (fun (h3 : x.num < 0) => (by rw [sgnQ, if_neg (mt nl0.2 (by assumption)), if_pos (by assumption)] : (-1) = sgnQ x)) (fun (h4 : ¬ (x.num < 0)) => (by rw [sgnQ, if_neg (mt nl0.2 (by assumption)), if_neg (by assumption)] : 1 = sgnQ x))))⟩)
abbrev Dw : Ctr Tryz.prog := FI.c TQ
abbrev WR : FI := ⟨79, [.rat], [(.n 1099511627776)], fun _ => [], fun b z => (fun (x : Rat) => .c (.one (.dt .mag (.n ((b0 b).nb + 1)) (x.den)))) z⟩
theorem WS : WR.OK Tryz.prog := mkF hmix 10 Tryz.func79 rfl rfl (by decide) [] (fun _ => rfl) (fun _ => rfl) (fun _ _ => rfl) (fun (x : Rat) b hx hp => qe (B5 (Bnds.h1 hx).rat.2) rfl) (fun (x : Rat) hx hp => by
 have hx0 : Bnd .rat (.n 1099511627776) x := hx
 exact ⟨.cond (.h 2 0 (.mk (.im (.nat .u32) (.n 4294967295))) (.h 2 1 (.mag 1 1) (.nil))) (.h 3 1 (.mag x.den 1099511627777) (.nil)), kcast (by kernel_rfl) (And.intro (fun (h1 : (denL x.den).length = 0) => I (Aq.symm : [1] = limbs 1) (I (FC rfl : lt2 1 1) (((A4 x.den_nz (by omega)).symm : 1 = x.den)))) (fun (h2 : ¬ ((denL x.den).length = 0)) => I (Bs (by omega) : denL x.den = limbs x.den) (I (B5 hx0.2 : lt2 x.den 1099511627777) ((Eq.refl x.den)))))⟩)
abbrev Fj : Ctr Tryz.prog := FI.c WS
abbrev TR : FI := ⟨81, [(.int .i64)], [(.n 4611686018427387904)], fun _ => [], fun b z => (fun (v : Int) => .tup [(.one (.dt .mag (.n (Nat.log2 (b0 b).nb + 1)) (v.natAbs))), .one (.dt .bool .u (decide (v < 0)))]) z⟩
theorem TS : TR.OK Tryz.prog := mkF hmix 15 Tryz.func81 rfl rfl (by decide) [(150, .c H4)] (fun _ => rfl) (fun _ => rfl) (fun _ _ => rfl) (fun (v : Int) b hx hp => qF (qe (zm (Bnds.h1 hx).int) rfl) (qF (qe trivial rfl) jz)) (fun (v : Int) hx hp => by
 have hx0 : Int.natAbs v ≤ 4611686018427387904 := hx
 exact ⟨.cond (.h 2 3 (.i (.n (v.natAbs - 1) 4611686018427387904)) (.nil)) (.h 3 1 (.i (.n v.natAbs 4611686018427387904)) (.nil)), kcast (by kernel_rfl) (And.intro (fun (h1 : v < 0) => I (by rw [show -(v + 1) = ((v.natAbs - 1 : Nat) : Int) by omega]; exact zi (by omega) : IntKind.wrap .u64 (-(v + 1)) = ((v.natAbs - 1 : Nat) : Int)) (I (by omega : v.natAbs - 1 ≤ 4611686018427387904) (And.intro (by omega : (v.natAbs - 1) + 1 = v.natAbs) ((decide_eq_true (by assumption)).symm : true = decide (v < 0))))) (fun (h2 : ¬ (v < 0)) => I (by rw [show v = ((v.natAbs : Nat) : Int) by omega]; exact zi (by omega) : IntKind.wrap .u64 v = ((v.natAbs : Nat) : Int)) (I (by omega : v.natAbs ≤ 4611686018427387904) (And.intro (Eq.refl v.natAbs) ((decide_eq_false (by assumption)).symm : false = decide (v < 0))))))⟩)
abbrev K9 : Ctr Tryz.prog := FI.c TS
abbrev NO : FI := ⟨77, [.bool, .mag, .mag], [.u, (.n 137438953536), (.n 137438953536)], fun z => (fun (neg : Bool) (n : Nat) (d : Nat) => [0 < d]) z.1 z.2.1 z.2.2, fun b z => (fun (neg : Bool) (n : Nat) (d : Nat) => .c (.agg [.dt .rat (.n (max (b1 b).nb (b2 b).nb)) (sgQ neg n d)])) z.1 z.2.1 z.2.2⟩
theorem NP : NO.OK Tryz.prog := mkF hmix 55 Tryz.func77 rfl rfl (by decide) [(147, .c Ga), (148, .c WE), (149, .c NJ)] (fun _ => rfl) (fun _ => rfl) (fun _ _ => rfl) (fun (neg : Bool) (n : Nat) (d : Nat) b hx hp => ja (E0 (q9 (Nat.le_max_left _ _) (Bnds.h3 hx).2.1.mag) (q9 (Nat.le_max_right _ _) (Bnds.h3 hx).2.2.mag))) (fun (neg : Bool) (n : Nat) (d : Nat) hx hp => by
 have hx1 : lt2 n 137438953536 := hx.2.1
 have hl1 : (limbs n).length ≤ 4294967299 := qf (Nat.le_of_lt hx1)
 have hx2 : lt2 d 137438953536 := hx.2.2
 have hl2 : (limbs d).length ≤ 4294967299 := qf (Nat.le_of_lt hx2)
 have hp0 : 0 < d := hp _ (List.mem_cons_self)
 exact ⟨.cond (.nil) ((fun (g : Nat) => .cond (.cond (.cond (.h 10 3 (.rat (sgQ neg n d) 137438953536) (.nil)) (.h 10 3 (.rat (sgQ neg n d) 137438953536) (.nil))) (.h 10 3 (.rat (sgQ neg n d) 137438953536) (.nil))) (.cond (.cond (.cond (.h 10 3 (.rat (sgQ neg n d) 137438953536) (.nil)) (.h 10 3 (.rat (sgQ neg n d) 137438953536) (.nil))) (.h 10 3 (.rat (sgQ neg n d) 137438953536) (.nil))) (.cond (.cond (.h 10 3 (.rat (sgQ neg n d) 137438953536) (.nil)) (.h 10 3 (.rat (sgQ neg n d) 137438953536) (.nil))) (.h 10 3 (.rat (sgQ neg n d) 137438953536) (.nil))))) (Nat.gcd n d)), kcast (by kernel_rfl) (And.intro (fun (h1 : (limbs n).length = 0) => (by rw [nl0.1 (show (limbs n).length = 0 by assumption), BR] : 0 = sgQ neg n d)) (fun (h2 : ¬ ((limbs n).length = 0)) => have hn0 := (show 0 < n from Nat.pos_of_ne_zero (mt nl0.2 (by omega))); have hd0 := hp0; (fun (g : Nat) (hg : g = Nat.gcd n d) => have hg0 := (show 0 < g from hg ▸ Nat.gcd_pos_of_pos_right _ hd0); have hgl := (Nat.pos_of_ne_zero (mt nl0.1 (show ¬ g = 0 by omega)) : 0 < (limbs g).length); And.intro (fun (h3 : (limbs g).length ≠ 1) => I (by omega : 0 < g) (I (by omega : 0 < g) (And.intro (fun (h4 : (limbs (d / g)).length = 1) => I (by omega : 0 < (limbs (d / g)).length) (And.intro (fun (h5 : (limbs (d / g)).getD 0 0 = 1) => I ((qZ hn0 hd0).symm : neg = decide ((sgQ neg n d).num < 0)) (I (by rw [qS hd0, ← hg] <;> first | rfl | (rw [hg1, Nat.div_one] <;> rfl) : n / g = (sgQ neg n d).num.natAbs) (I (by rw [(qP hd0).2, ← hg]; first | exact v7 (by omega) (by omega) | (rw [hg1, Nat.div_one]; exact v7 (by omega) (by omega)) : (sgQ neg n d).den = 1) (I ((qw (p := 137438953536) (q9 (by decide) hx1) (qz (q9 (by decide) hx2)) hd0).1 : lt2 (sgQ neg n d).num.natAbs 137438953536) (I ((qw (p := 137438953536) (q9 (by decide) hx1) (qz (q9 (by decide) hx2)) hd0).2 : le2 (sgQ neg n d).den 137438953536) ((Eq.refl (sgQ neg n d)))))))) (fun (h6 : ¬ ((limbs (d / g)).getD 0 0 = 1)) => I ((qZ hn0 hd0).symm : neg = decide ((sgQ neg n d).num < 0)) (I (by rw [qS hd0, ← hg] <;> first | rfl | (rw [hg1, Nat.div_one] <;> rfl) : n / g = (sgQ neg n d).num.natAbs) (I (jP (by rw [(qP hd0).2, ← hg] <;> first | rfl | (rw [hg1, Nat.div_one] <;> rfl)) (by omega) : limbs (d / g) = denL (sgQ neg n d).den) (I ((qw (p := 137438953536) (q9 (by decide) hx1) (qz (q9 (by decide) hx2)) hd0).1 : lt2 (sgQ neg n d).num.natAbs 137438953536) (I ((qw (p := 137438953536) (q9 (by decide) hx1) (qz (q9 (by decide) hx2)) hd0).2 : le2 (sgQ neg n d).den 137438953536) ((Eq.refl (sgQ neg n d)))))))))) (fun (h7 : ¬ ((limbs (d / g)).length = 1)) => I ((qZ hn0 hd0).symm : neg = decide ((sgQ neg n d).num < 0)) (I (by rw [qS hd0, ← hg] <;> first | rfl | (rw [hg1, Nat.div_one] <;> rfl) : n / g = (sgQ neg n d).num.natAbs) (I (jP (by rw [(qP hd0).2, ← hg] <;> first | rfl | (rw [hg1, Nat.div_one] <;> rfl)) (by omega) : limbs (d / g) = denL (sgQ neg n d).den) (I ((qw (p := 137438953536) (q9 (by decide) hx1) (qz (q9 (by decide) hx2)) hd0).1 : lt2 (sgQ neg n d).num.natAbs 137438953536) (I ((qw (p := 137438953536) (q9 (by decide) hx1) (qz (q9 (by decide) hx2)) hd0).2 : le2 (sgQ neg n d).den 137438953536) ((Eq.refl (sgQ neg n d))))))))))) (fun (h8 : ¬ ((limbs g).length ≠ 1)) => I (by omega : 0 < (limbs g).length) (And.intro (fun (h9 : (limbs g).getD 0 0 ≠ 1) => I (by omega : 0 < g) (I (by omega : 0 < g) (And.intro (fun (h10 : (limbs (d / g)).length = 1) => I (by omega : 0 < (limbs (d / g)).length) (And.intro (fun (h11 : (limbs (d / g)).getD 0 0 = 1) => I ((qZ hn0 hd0).symm : neg = decide ((sgQ neg n d).num < 0)) (I (by rw [qS hd0, ← hg] <;> first | rfl | (rw [hg1, Nat.div_one] <;> rfl) : n / g = (sgQ neg n d).num.natAbs) (I (by rw [(qP hd0).2, ← hg]; first | exact v7 (by omega) (by omega) | (rw [hg1, Nat.div_one]; exact v7 (by omega) (by omega)) : (sgQ neg n d).den = 1) (I ((qw (p := 137438953536) (q9 (by decide) hx1) (qz (q9 (by decide) hx2)) hd0).1 : lt2 (sgQ neg n d).num.natAbs 137438953536) (I ((qw (p := 137438953536) (q9 (by decide) hx1) (qz (q9 (by decide) hx2)) hd0).2 : le2 (sgQ neg n d).den 137438953536) ((Eq.refl (sgQ neg n d)))))))) (fun (h12 : ¬ ((limbs (d / g)).getD 0 0 = 1)) => I ((qZ hn0 hd0).symm : neg = decide ((sgQ neg n d).num < 0)) (I (by rw [qS hd0, ← hg] <;> first | rfl | (rw [hg1, Nat.div_one] <;> rfl) : n / g = (sgQ neg n d).num.natAbs) (I (jP (by rw [(qP hd0).2, ← hg] <;> first | rfl | (rw [hg1, Nat.div_one] <;> rfl)) (by omega) : limbs (d / g) = denL (sgQ neg n d).den) (I ((qw (p := 137438953536) (q9 (by decide) hx1) (qz (q9 (by decide) hx2)) hd0).1 : lt2 (sgQ neg n d).num.natAbs 137438953536) (I ((qw (p := 137438953536) (q9 (by decide) hx1) (qz (q9 (by decide) hx2)) hd0).2 : le2 (sgQ neg n d).den 137438953536) ((Eq.refl (sgQ neg n d)))))))))) (fun (h13 : ¬ ((limbs (d / g)).length = 1)) => I ((qZ hn0 hd0).symm : neg = decide ((sgQ neg n d).num < 0)) (I (by rw [qS hd0, ← hg] <;> first | rfl | (rw [hg1, Nat.div_one] <;> rfl) : n / g = (sgQ neg n d).num.natAbs) (I (jP (by rw [(qP hd0).2, ← hg] <;> first | rfl | (rw [hg1, Nat.div_one] <;> rfl)) (by omega) : limbs (d / g) = denL (sgQ neg n d).den) (I ((qw (p := 137438953536) (q9 (by decide) hx1) (qz (q9 (by decide) hx2)) hd0).1 : lt2 (sgQ neg n d).num.natAbs 137438953536) (I ((qw (p := 137438953536) (q9 (by decide) hx1) (qz (q9 (by decide) hx2)) hd0).2 : le2 (sgQ neg n d).den 137438953536) ((Eq.refl (sgQ neg n d))))))))))) (fun (h14 : ¬ ((limbs g).getD 0 0 ≠ 1)) => have hg1 := (v7 (by omega) (by omega) : g = 1); And.intro (fun (h15 : (limbs d).length = 1) => I (by omega : 0 < (limbs d).length) (And.intro (fun (h16 : (limbs d).getD 0 0 = 1) => I ((qZ hn0 hd0).symm : neg = decide ((sgQ neg n d).num < 0)) (I (by rw [qS hd0, ← hg] <;> first | rfl | (rw [hg1, Nat.div_one] <;> rfl) : n = (sgQ neg n d).num.natAbs) (I (by rw [(qP hd0).2, ← hg]; first | exact v7 (by omega) (by omega) | (rw [hg1, Nat.div_one]; exact v7 (by omega) (by omega)) : (sgQ neg n d).den = 1) (I ((qw (p := 137438953536) (q9 (by decide) hx1) (qz (q9 (by decide) hx2)) hd0).1 : lt2 (sgQ neg n d).num.natAbs 137438953536) (I ((qw (p := 137438953536) (q9 (by decide) hx1) (qz (q9 (by decide) hx2)) hd0).2 : le2 (sgQ neg n d).den 137438953536) ((Eq.refl (sgQ neg n d)))))))) (fun (h17 : ¬ ((limbs d).getD 0 0 = 1)) => I ((qZ hn0 hd0).symm : neg = decide ((sgQ neg n d).num < 0)) (I (by rw [qS hd0, ← hg] <;> first | rfl | (rw [hg1, Nat.div_one] <;> rfl) : n = (sgQ neg n d).num.natAbs) (I (jP (by rw [(qP hd0).2, ← hg] <;> first | rfl | (rw [hg1, Nat.div_one] <;> rfl)) (by omega) : limbs d = denL (sgQ neg n d).den) (I ((qw (p := 137438953536) (q9 (by decide) hx1) (qz (q9 (by decide) hx2)) hd0).1 : lt2 (sgQ neg n d).num.natAbs 137438953536) (I ((qw (p := 137438953536) (q9 (by decide) hx1) (qz (q9 (by decide) hx2)) hd0).2 : le2 (sgQ neg n d).den 137438953536) ((Eq.refl (sgQ neg n d)))))))))) (fun (h18 : ¬ ((limbs d).length = 1)) => I ((qZ hn0 hd0).symm : neg = decide ((sgQ neg n d).num < 0)) (I (by rw [qS hd0, ← hg] <;> first | rfl | (rw [hg1, Nat.div_one] <;> rfl) : n = (sgQ neg n d).num.natAbs) (I (jP (by rw [(qP hd0).2, ← hg] <;> first | rfl | (rw [hg1, Nat.div_one] <;> rfl)) (by omega) : limbs d = denL (sgQ neg n d).den) (I ((qw (p := 137438953536) (q9 (by decide) hx1) (qz (q9 (by decide) hx2)) hd0).1 : lt2 (sgQ neg n d).num.natAbs 137438953536) (I ((qw (p := 137438953536) (q9 (by decide) hx1) (qz (q9 (by decide) hx2)) hd0).2 : le2 (sgQ neg n d).den 137438953536) ((Eq.refl (sgQ neg n d)))))))))))) (Nat.gcd n d) rfl))⟩)
abbrev AH : Ctr Tryz.prog := FI.c NP
abbrev WT : FI := ⟨29, [(.int .i64)], [(.n 4611686018427387904)], fun _ => [], fun b z => (fun (v : Int) => .c (.agg [.dt .rat (.n (Nat.log2 (b0 b).nb + 1)) ((v : Rat))])) z⟩
theorem WU : WT.OK Tryz.prog := mkF hmix 13 Tryz.func29 rfl rfl (by decide) [(81, .c K9)] (fun _ => rfl) (fun _ => rfl) (fun _ _ => rfl) (fun (v : Int) b hx hp => ja (wM (Bnds.h1 hx).int)) (fun (v : Int) hx hp => by
 have hx0 : Int.natAbs v ≤ 4611686018427387904 := hx
 exact ⟨.h 2 2 (.rat (v : Rat) 64) (.nil), kcast (by kernel_rfl) (I (by rw [wN] : decide (v < 0) = decide ((v : Rat).num < 0)) (I (by rw [wN] : v.natAbs = (v : Rat).num.natAbs) (I (D7 v : (v : Rat).den = 1) (I (by rw [wN]; exact Nat.lt_of_le_of_lt hx0 (by decide) : lt2 (v : Rat).num.natAbs 64) (I (by rw [D7]; exact Nat.one_le_two_pow : le2 (v : Rat).den 64) ((Eq.refl (v : Rat))))))))⟩)
abbrev Fk : Ctr Tryz.prog := FI.c WU
abbrev TL : FI := ⟨146, [(.int .i64), (.int .i64)], [(.n 4611686018427387904), (.n 4611686018427387904)], fun _ => [], fun b z => (fun (u : Int) (v : Int) => .tup [.agg [.dt .rat (.n (max (Nat.log2 (b0 b).nb + 1) (Nat.log2 (b1 b).nb + 1))) ((u : Rat) / (v : Rat))], .one (.dt (.int .i64) (.n 3) (mkC' v))]) z.1 z.2⟩
theorem TM : TL.OK Tryz.prog := mkF hmix 29 Tryz.func146 rfl rfl (by decide) [(77, .c AH), (81, .c K9)] (fun _ => rfl) (fun _ => rfl) (fun _ _ => rfl) (fun (u : Int) (v : Int) b hx hp => qF (ja (Ac (Bnds.h2 hx).1.int (Bnds.h2 hx).2.int)) (qF (qe (XA v) rfl) jz)) (fun (u : Int) (v : Int) hx hp => by
 have hx0 : Int.natAbs u ≤ 4611686018427387904 := hx.1
 have hx1 : Int.natAbs v ≤ 4611686018427387904 := hx.2
 exact ⟨.nil, kcast (by kernel_rfl) (And.intro (fun (h1 : v = 0) => And.intro (by rw [show v = 0 by assumption]; simp [Rat.div_def] : 0 = ((u : Int) : Rat) / ((v : Int) : Rat)) ((if_pos (by assumption)).symm : 3 = mkC' v)) (fun (h2 : ¬ (v = 0)) => I (by omega : 0 < v.natAbs) (And.intro (JA u v : sgQ (decide ((decide (u < 0)) ≠ (decide (v < 0)))) u.natAbs v.natAbs = ((u : Int) : Rat) / ((v : Int) : Rat)) ((if_neg (by assumption)).symm : 0 = mkC' v))))⟩)
abbrev TK : Ctr Tryz.prog := FI.c TM
abbrev TI : FI := ⟨75, [(.int .i64), (.int .i64)], [(.n 4611686018427387904), (.n 4611686018427387904)], fun _ => [], fun b z => (fun (u : Int) (v : Int) => .c (.agg [.dt .rat (.n (max (Nat.log2 (b0 b).nb + 1) (Nat.log2 (b1 b).nb + 1))) ((u : Rat) / (v : Rat))])) z.1 z.2⟩
theorem TJ : TI.OK Tryz.prog := mkF hmix 14 Tryz.func75 rfl rfl (by decide) [(146, .c TK)] (fun _ => rfl) (fun _ => rfl) (fun _ _ => rfl) (fun (u : Int) (v : Int) b hx hp => ja (Ac (Bnds.h2 hx).1.int (Bnds.h2 hx).2.int)) (fun (u : Int) (v : Int) hx hp => by
 exact ⟨.nil, kcast (by kernel_rfl) ((Eq.refl (((u : Int) : Rat) / ((v : Int) : Rat))))⟩)
abbrev K7 : Ctr Tryz.prog := FI.c TJ
abbrev TN : FI := ⟨30, [.rat, .rat], [(.n 68719476736), (.n 68719476736)], fun _ => [], fun b z => (fun (x : Rat) (y : Rat) => .c (.one (.dt .bool .u (decide (x = y))))) z.1 z.2⟩
theorem TO : TN.OK Tryz.prog := mkF hmix 26 Tryz.func30 rfl rfl (by decide) [(82, .c CV)] (fun _ => rfl) (fun _ => rfl) (fun _ _ => rfl) (fun (x : Rat) (y : Rat) b hx hp => qe trivial rfl) (fun (x : Rat) (y : Rat) hx hp => by
 have hx0 : Bnd .rat (.n 68719476736) x := hx.1
 have hx1 : Bnd .rat (.n 68719476736) y := hx.2
 exact ⟨.cond (.cond (.h 1 15 (.mag (dm x.den) 68719476737) (.h 1 17 (.mag (dm y.den) 68719476737) (.nil))) (.nil)) (.nil), kcast (by kernel_rfl) (And.intro (fun (h1 : (decide (x.num < 0)) = (decide (y.num < 0))) => And.intro (fun (h2 : cmpN x.num.natAbs y.num.natAbs = 0) => I (Jh _ : denL x.den = limbs (dm x.den)) (I (LR hx0.2 : lt2 (dm x.den) 68719476737) (I (Jh _ : denL y.den = limbs (dm y.den)) (I (LR hx1.2 : lt2 (dm y.den) 68719476737) ((X3 (by assumption) (by assumption) : decide (cmpN (dm x.den) (dm y.den) = 0) = decide (x = y))))))) (fun (h3 : ¬ (cmpN x.num.natAbs y.num.natAbs = 0)) => (ysame (by first | exact .inl (by assumption) | exact .inr (.inl (by assumption))) : false = decide (x = y)))) (fun (h4 : ¬ ((decide (x.num < 0)) = (decide (y.num < 0)))) => (ysame (by first | exact .inl (by assumption) | exact .inr (.inl (by assumption))) : false = decide (x = y))))⟩)
abbrev K8 : Ctr Tryz.prog := FI.c TO
abbrev WY : FI := ⟨80, [.rat], [(.n 68719476736)], fun _ => [], fun b z => (fun (x : Rat) => .c (.agg [.dt .rat (.n ((b0 b).nb)) (-x)])) z⟩
theorem WZ : WY.OK Tryz.prog := mkF hmix 14 Tryz.func80 rfl rfl (by decide) [] (fun _ => rfl) (fun _ => rfl) (fun _ _ => rfl) (fun (x : Rat) b hx hp => ja (B6 (Bnds.h1 hx))) (fun (x : Rat) hx hp => by
 exact ⟨.cond (.h 2 0 (.rat (-x) 68719476736) (.nil)) (.h 2 0 (.rat (-x) 68719476736) (.nil)), kcast (by kernel_rfl) (And.intro (fun (h1 : ¬ (x.num < 0)) => I (by first | exact Mz (by assumption) | exact MA (by omega) : decide (0 < (limbs x.num.natAbs).length) = decide ((-x).num < 0)) (I ((FE x).symm : x.num.natAbs = (-x).num.natAbs) (I (by rw [Rat.neg_den] : denL x.den = denL (-x).den) (I ((B6 hx).1 : lt2 (-x).num.natAbs 68719476736) (I ((B6 hx).2 : le2 (-x).den 68719476736) ((Eq.refl (-x)))))))) (fun (h2 : ¬ (¬ (x.num < 0))) => I (by first | exact Mz (by assumption) | exact MA (by omega) : false = decide ((-x).num < 0)) (I ((FE x).symm : x.num.natAbs = (-x).num.natAbs) (I (by rw [Rat.neg_den] : denL x.den = denL (-x).den) (I ((B6 hx).1 : lt2 (-x).num.natAbs 68719476736) (I ((B6 hx).2 : le2 (-x).den 68719476736) ((Eq.refl (-x)))))))))⟩)
abbrev NN : Ctr Tryz.prog := FI.c WZ
abbrev WM : FI := ⟨53, [.rat, .rat], [(.n 68719476736), (.n 68719476736)], fun _ => [], fun b z => (fun (x : Rat) (y : Rat) => .c (.agg [.dt .rat (.n ((b0 b).nb + (b1 b).nb + 1)) (x + y)])) z.1 z.2⟩
theorem WN : WM.OK Tryz.prog := mkF hmix 75 Tryz.func53 rfl rfl (by decide) [(77, .c AH), (78, .c CW), (79, .c Fj), (82, .c CV), (119, .c Wu), (120, .c WJ)] (fun _ => rfl) (fun _ => rfl) (fun _ _ => rfl) (fun (x : Rat) (y : Rat) b hx hp => ja (DE (Bnds.h2 hx).1 (Bnds.h2 hx).2)) (fun (x : Rat) (y : Rat) hx hp => by
 exact ⟨.nil, kcast (by kernel_rfl) (And.intro (fun (h1 : (limbs x.num.natAbs).length = 0) => (by rw [vM (x := x) (nl0.1 (by assumption)), Rat.zero_add] : y = x + y)) (fun (h2 : ¬ ((limbs x.num.natAbs).length = 0)) => And.intro (fun (h3 : (limbs y.num.natAbs).length = 0) => (by rw [vM (x := y) (nl0.1 (by assumption)), Rat.add_zero] : x = x + y)) (fun (h4 : ¬ ((limbs y.num.natAbs).length = 0)) => have hqx := Nat.pos_of_ne_zero x.den_nz; have hqy := Nat.pos_of_ne_zero y.den_nz; have hqp := Nat.mul_pos hqx hqy; And.intro (fun (h5 : (decide (x.num < 0)) = (decide (y.num < 0))) => I (hqp : 0 < x.den * y.den) ((by rw [show x + y = x + yQ (decide (y.num < 0)) y by rw [Bh]]; first | (have hs : decide (x.num < 0) = decide (y.num < 0) := (by assumption); rw [hs]; exact qE hs) | exact qC (by assumption) (Nat.le_of_not_lt (mt jg.2 (by assumption))) | exact qD (by assumption) (by have h := jg.1 (show cmpN (x.num.natAbs * y.den) (y.num.natAbs * x.den) < 0 by assumption); omega) : sgQ (decide (x.num < 0)) ((x.num.natAbs * y.den) + (y.num.natAbs * x.den)) (x.den * y.den) = x + y))) (fun (h6 : ¬ ((decide (x.num < 0)) = (decide (y.num < 0)))) => And.intro (fun (h7 : cmpN (x.num.natAbs * y.den) (y.num.natAbs * x.den) < 0) => I (hqp : 0 < x.den * y.den) ((by rw [show x + y = x + yQ (decide (y.num < 0)) y by rw [Bh]]; first | (have hs : decide (x.num < 0) = decide (y.num < 0) := (by assumption); rw [hs]; exact qE hs) | exact qC (by assumption) (Nat.le_of_not_lt (mt jg.2 (by assumption))) | exact qD (by assumption) (by have h := jg.1 (show cmpN (x.num.natAbs * y.den) (y.num.natAbs * x.den) < 0 by assumption); omega) : sgQ (decide (y.num < 0)) ((y.num.natAbs * x.den) - (x.num.natAbs * y.den)) (x.den * y.den) = x + y))) (fun (h8 : ¬ (cmpN (x.num.natAbs * y.den) (y.num.natAbs * x.den) < 0)) => I (hqp : 0 < x.den * y.den) ((by rw [show x + y = x + yQ (decide (y.num < 0)) y by rw [Bh]]; first | (have hs : decide (x.num < 0) = decide (y.num < 0) := (by assumption); rw [hs]; exact qE hs) | exact qC (by assumption) (Nat.le_of_not_lt (mt jg.2 (by assumption))) | exact qD (by assumption) (by have h := jg.1 (show cmpN (x.num.natAbs * y.den) (y.num.natAbs * x.den) < 0 by assumption); omega) : sgQ (decide (x.num < 0)) ((x.num.natAbs * y.den) - (y.num.natAbs * x.den)) (x.den * y.den) = x + y)))))))⟩)
abbrev IO : Ctr Tryz.prog := FI.c WN
abbrev X4 : FI := ⟨28, [.rat, .rat], [(.n 68719476736), (.n 68719476736)], fun _ => [], fun b z => (fun (x : Rat) (y : Rat) => .c (.agg [.dt .rat (.n ((b0 b).nb + (b1 b).nb + 1)) (x - y)])) z.1 z.2⟩
theorem X5 : X4.OK Tryz.prog := mkF hmix 9 Tryz.func28 rfl rfl (by decide) [(53, .c IO), (80, .c NN)] (fun _ => rfl) (fun _ => rfl) (fun _ _ => rfl) (fun (x : Rat) (y : Rat) b hx hp => ja (E2 (Bnds.h2 hx).1 (Bnds.h2 hx).2)) (fun (x : Rat) (y : Rat) hx hp => by
 exact ⟨.nil, kcast (by kernel_rfl) ((by rw [Rat.sub_eq_add_neg] : x + (-y) = x - y))⟩)
abbrev CX : Ctr Tryz.prog := FI.c X5
abbrev WW : FI := ⟨27, [.rat, .rat], [(.n 68719476736), (.n 68719476736)], fun _ => [], fun b z => (fun (x : Rat) (y : Rat) => .c (.agg [.dt .rat (.n ((b0 b).nb + (b1 b).nb)) (x * y)])) z.1 z.2⟩
theorem WX : WW.OK Tryz.prog := mkF hmix 21 Tryz.func27 rfl rfl (by decide) [(77, .c AH), (78, .c CW), (79, .c Fj)] (fun _ => rfl) (fun _ => rfl) (fun _ _ => rfl) (fun (x : Rat) (y : Rat) b hx hp => ja (AP (Bnds.h2 hx).1 (Bnds.h2 hx).2)) (fun (x : Rat) (y : Rat) hx hp => by
 have hqp := Nat.mul_pos (Nat.pos_of_ne_zero x.den_nz) (Nat.pos_of_ne_zero y.den_nz)
 exact ⟨.nil, kcast (by kernel_rfl) (have hqx := Nat.pos_of_ne_zero x.den_nz; have hqy := Nat.pos_of_ne_zero y.den_nz; have hqp := Nat.mul_pos hqx hqy; I (hqp : 0 < x.den * y.den) ((zM x y : sgQ (decide ((decide (x.num < 0)) ≠ (decide (y.num < 0)))) (x.num.natAbs * y.num.natAbs) (x.den * y.den) = x * y)))⟩)
abbrev IP : Ctr Tryz.prog := FI.c WX
abbrev X1 : FI := ⟨86, [.rat, .rat], [(.n 68719476736), (.n 68719476736)], fun _ => [], fun b z => (fun (x : Rat) (y : Rat) => .tup [.agg [.dt .rat (.n ((b0 b).nb + (b1 b).nb)) (x / y)], .one (.dt (.int .i64) (.n 3) (quoC y))]) z.1 z.2⟩
theorem X2 : X1.OK Tryz.prog := mkF hmix 27 Tryz.func86 rfl rfl (by decide) [(77, .c AH), (78, .c CW), (79, .c Fj)] (fun _ => rfl) (fun _ => rfl) (fun _ _ => rfl) (fun (x : Rat) (y : Rat) b hx hp => qF (ja (FN (Bnds.h2 hx).1 (Bnds.h2 hx).2)) (qF (qe (MR y) rfl) jz)) (fun (x : Rat) (y : Rat) hx hp => by
 exact ⟨.nil, kcast (by kernel_rfl) (And.intro (fun (h1 : (limbs y.num.natAbs).length = 0) => And.intro (Q9 (nl0.1 (by assumption)) : 0 = x / y) ((if_pos (nl0.1 (by assumption))).symm : 3 = quoC y)) (fun (h2 : ¬ ((limbs y.num.natAbs).length = 0)) => have hy0 := (mt nl0.2 (by assumption) : ¬ y.num.natAbs = 0); I (Nat.mul_pos (Nat.pos_of_ne_zero x.den_nz) (Nat.pos_of_ne_zero hy0) : 0 < x.den * y.num.natAbs) (And.intro (zS hy0 : sgQ (decide ((decide (x.num < 0)) ≠ (decide (y.num < 0)))) (x.num.natAbs * y.den) (x.den * y.num.natAbs) = x / y) ((if_neg hy0).symm : 0 = quoC y))))⟩)
abbrev X0 : Ctr Tryz.prog := FI.c X2
abbrev WP : FI := ⟨32, [.rat, .rat], [(.n 68719476736), (.n 68719476736)], fun _ => [], fun b z => (fun (x : Rat) (y : Rat) => .c (.one (.dt (.int .i64) (.n 1) (cmpQ x y)))) z.1 z.2⟩
theorem WQ : WP.OK Tryz.prog := mkF hmix 34 Tryz.func32 rfl rfl (by decide) [(16, .c Dw), (78, .c CW), (79, .c Fj), (82, .c CV)] (fun _ => rfl) (fun _ => rfl) (fun _ _ => rfl) (fun (x : Rat) (y : Rat) b hx hp => qe (zZ x y) rfl) (fun (x : Rat) (y : Rat) hx hp => by
 exact ⟨.nil, kcast (by kernel_rfl) (And.intro (fun (h1 : sgnQ x ≠ sgnQ y) => And.intro (fun (h2 : sgnQ x < sgnQ y) => (by first | exact ((qL (by assumption)).1 (by assumption)).symm | exact ((qL (by assumption)).2 (by assumption)).symm | exact (jl hs (by assumption)).symm | exact (jm hs (by assumption)).symm : (-1) = cmpQ x y)) (fun (h3 : ¬ (sgnQ x < sgnQ y)) => (by first | exact ((qL (by assumption)).1 (by assumption)).symm | exact ((qL (by assumption)).2 (by assumption)).symm | exact (jl hs (by assumption)).symm | exact (jm hs (by assumption)).symm : 1 = cmpQ x y))) (fun (h4 : ¬ (sgnQ x ≠ sgnQ y)) => have hs := (show sgnQ x = sgnQ y by omega); And.intro (fun (h5 : x.num < 0) => (by first | exact ((qL (by assumption)).1 (by assumption)).symm | exact ((qL (by assumption)).2 (by assumption)).symm | exact (jl hs (by assumption)).symm | exact (jm hs (by assumption)).symm : -(cmpN (x.num.natAbs * y.den) (y.num.natAbs * x.den)) = cmpQ x y)) (fun (h6 : ¬ (x.num < 0)) => (by first | exact ((qL (by assumption)).1 (by assumption)).symm | exact ((qL (by assumption)).2 (by assumption)).symm | exact (jl hs (by assumption)).symm | exact (jm hs (by assumption)).symm : cmpN (x.num.natAbs * y.den) (y.num.natAbs * x.den) = cmpQ x y))))⟩)
abbrev WO : Ctr Tryz.prog := FI.c WQ
abbrev Ps : FI := ⟨210, [(.pr .rat (.pr .rat .rat)), (.pr .rat (.pr .rat .rat))], [(.p (.n 4294967296) (.p (.n 4294967296) (.n 4294967296))), (.p (.n 4294967296) (.p (.n 4294967296) (.n 4294967296)))], fun _ => [], fun b z => (fun (p : Rat × Rat × Rat) (q : Rat × Rat × Rat) => .c (.one (.dt .bool .u (decide (p = q))))) z.1 z.2⟩
theorem Pt : Ps.OK Tryz.prog := mkF hmix 18 Tryz.func210 rfl rfl (by decide) [(260, .c Sy)] (fun _ => rfl) (fun _ => rfl) (fun _ _ => rfl) (fun (p : Rat × Rat × Rat) (q : Rat × Rat × Rat) b hx hp => qe trivial rfl) (fun (p : Rat × Rat × Rat) (q : Rat × Rat × Rat) hx hp => by
 exact ⟨.nil, kcast (by kernel_rfl) (And.intro (fun (h1 : (!(decide (p.1 = q.1))) = true) => (Fd (.inl (nd h1)) : false = decide (p = q))) (fun (h2 : ¬ ((!(decide (p.1 = q.1))) = true)) => And.intro (fun (h3 : (!(decide (p.2.1 = q.2.1))) = true) => (Fd (.inr (.inl (nd h3))) : false = decide (p = q))) (fun (h4 : ¬ ((!(decide (p.2.1 = q.2.1))) = true)) => And.intro (fun (h5 : (!(decide (p.2.2 = q.2.2))) = true) => (Fd (.inr (.inr (nd h5))) : false = decide (p = q))) (fun (h6 : ¬ ((!(decide (p.2.2 = q.2.2))) = true)) => (Wm (nd' h2) (nd' h4) (nd' h6) : true = decide (p = q))))))⟩)
abbrev Iq : Ctr Tryz.prog := FI.c Pt
abbrev Pu : FI := ⟨55, [(.pr .rat (.pr .rat .rat)), (.pr .rat (.pr .rat .rat))], [(.p (.n 4294967296) (.p (.n 4294967296) (.n 4294967296))), (.p (.n 4294967296) (.p (.n 4294967296) (.n 4294967296)))], fun _ => [], fun b z => (fun (p : Rat × Rat × Rat) (q : Rat × Rat × Rat) => .c (.one (.dt .bool .u (decide (p = q))))) z.1 z.2⟩
theorem Pv : Pu.OK Tryz.prog := mkF hmix 24 Tryz.func55 rfl rfl (by decide) [(30, .c K8)] (fun _ => rfl) (fun _ => rfl) (fun _ _ => rfl) (fun (p : Rat × Rat × Rat) (q : Rat × Rat × Rat) b hx hp => qe trivial rfl) (fun (p : Rat × Rat × Rat) (q : Rat × Rat × Rat) hx hp => by
 exact ⟨.nil, kcast (by kernel_rfl) (And.intro (fun (h1 : decide (p.1 = q.1) = true) => And.intro (fun (h2 : decide (p.2.1 = q.2.1) = true) => (by rw [decide_eq_decide, vq]; exact ⟨fun h => ⟨(yd h1), (yd h2), h⟩, fun h => h.2.2⟩ : decide (p.2.2 = q.2.2) = decide (p = q))) (fun (h3 : ¬ (decide (p.2.1 = q.2.1) = true)) => (Fd (.inr (.inl (yd' h3))) : false = decide (p = q)))) (fun (h4 : ¬ (decide (p.1 = q.1) = true)) => (Fd (.inl (yd' h4)) : false = decide (p = q))))⟩)
abbrev BV : Ctr Tryz.prog := FI.c Pv
abbrev PB : FI := ⟨135, [(.pr .rat (.pr .rat .rat))], [(.p (.n 4294967296) (.p (.n 4294967296) (.n 4294967296)))], fun _ => [], fun b z => (fun (p : Rat × Rat × Rat) => .c (.one (.dt .bool .u (decide (p = (0, 0, 0)))))) z⟩
theorem PC : PB.OK Tryz.prog := mkF hmix 6 Tryz.func135 rfl rfl (by decide) [(210, .c Iq)] (fun _ => rfl) (fun _ => rfl) (fun _ _ => rfl) (fun (p : Rat × Rat × Rat) b hx hp => qe trivial rfl) (fun (p : Rat × Rat × Rat) hx hp => by
 exact ⟨.nil, kcast (by kernel_rfl) ((Eq.refl (decide (p = (0, 0, 0)))))⟩)
abbrev E6 : Ctr Tryz.prog := FI.c PC
abbrev PD : FI := ⟨126, [(.pr .rat (.pr .rat .rat))], [(.p (.n 4294967296) (.p (.n 4294967296) (.n 4294967296)))], fun _ => [], fun b z => (fun (p : Rat × Rat × Rat) => .c (.one (.dt .bool .u (decide (p = (0, 0, 0)))))) z⟩
theorem PE : PD.OK Tryz.prog := mkF hmix 6 Tryz.func126 rfl rfl (by decide) [(55, .c BV)] (fun _ => rfl) (fun _ => rfl) (fun _ _ => rfl) (fun (p : Rat × Rat × Rat) b hx hp => qe trivial rfl) (fun (p : Rat × Rat × Rat) hx hp => by
 exact ⟨.nil, kcast (by kernel_rfl) ((Eq.refl (decide (p = (0, 0, 0)))))⟩)
abbrev Iu : Ctr Tryz.prog := FI.c PE
abbrev LV : FI := ⟨204, [(.pr .rat (.pr .rat .rat)), (.pr .rat (.pr .rat .rat)), (.fn 139)], [(.p (.n 4294967296) (.p (.n 4294967296) (.n 4294967296))), (.p (.n 4294967296) (.p (.n 4294967296) (.n 4294967296))), .u], fun _ => [], fun b z => (fun (p : Rat × Rat × Rat) (q : Rat × Rat × Rat) (u : Unit) => .c (.agg [.dt tV3 (bV3 ((b0 b).mx + (b1 b).mx + 1)) (addV p q)])) z.1 z.2.1 z.2.2⟩
theorem LW : LV.OK Tryz.prog := mkF hmix 24 Tryz.func204 rfl rfl (by decide) [(139, .c JL)] (fun _ => rfl) (fun _ => rfl) (fun _ _ => rfl) (fun (p : Rat × Rat × Rat) (q : Rat × Rat × Rat) (u : Unit) b hx hp => zq (C5 (Bnds.h3 hx).1 (Bnds.h3 hx).2.1)) (fun (p : Rat × Rat × Rat) (q : Rat × Rat × Rat) (u : Unit) hx hp => by
 exact ⟨.nil, kcast (by kernel_rfl) ((rfl : (p.1 + q.1, p.2.1 + q.2.1, p.2.2 + q.2.2) = addV p q))⟩)
abbrev LU : Ctr Tryz.prog := FI.c LW
abbrev LY : FI := ⟨204, [(.pr .rat (.pr .rat .rat)), (.pr .rat (.pr .rat .rat)), (.fn 74)], [(.p (.n 4294967296) (.p (.n 4294967296) (.n 4294967296))), (.p (.n 4294967296) (.p (.n 4294967296) (.n 4294967296))), .u], fun _ => [], fun b z => (fun (p : Rat × Rat × Rat) (q : Rat × Rat × Rat) (u : Unit) => .c (.agg [.dt tV3 (bV3 ((b0 b).mx + (b1 b).mx)) (mulV p q)])) z.1 z.2.1 z.2.2⟩
theorem LZ : LY.OK Tryz.prog := mkF hmix 24 Tryz.func204 rfl rfl (by decide) [(74, .c F1)] (fun _ => rfl) (fun _ => rfl) (fun _ _ => rfl) (fun (p : Rat × Rat × Rat) (q : Rat × Rat × Rat) (u : Unit) b hx hp => zq (UV (Bnds.h3 hx).1 (Bnds.h3 hx).2.1)) (fun (p : Rat × Rat × Rat) (q : Rat × Rat × Rat) (u : Unit) hx hp => by
 exact ⟨.nil, kcast (by kernel_rfl) ((rfl : (p.1 * q.1, p.2.1 * q.2.1, p.2.2 * q.2.2) = mulV p q))⟩)
abbrev LX : Ctr Tryz.prog := FI.c LZ
abbrev Te : FI := ⟨129, [(.pr .rat (.pr .rat .rat)), (.pr .rat (.pr .rat .rat))], [(.p (.n 4294967296) (.p (.n 4294967296) (.n 4294967296))), (.p (.n 4294967296) (.p (.n 4294967296) (.n 4294967296)))], fun _ => [], fun b z => (fun (p : Rat × Rat × Rat) (q : Rat × Rat × Rat) => .c (.agg [.dt tV3 (bV3 ((b0 b).mx + (b1 b).mx + 1)) (addV p q)])) z.1 z.2⟩
theorem Tf : Te.OK Tryz.prog := mkF hmix 8 Tryz.func129 rfl rfl (by decide) [(204, .c LU)] (fun _ => rfl) (fun _ => rfl) (fun _ _ => rfl) (fun (p : Rat × Rat × Rat) (q : Rat × Rat × Rat) b hx hp => zq (C5 (Bnds.h2 hx).1 (Bnds.h2 hx).2)) (fun (p : Rat × Rat × Rat) (q : Rat × Rat × Rat) hx hp => by
 exact ⟨.nil, kcast (by kernel_rfl) ((Eq.refl (addV p q)))⟩)
abbrev K2 : Ctr Tryz.prog := FI.c Tf
abbrev Tg : FI := ⟨21, [(.pr .rat (.pr .rat .rat)), (.pr .rat (.pr .rat .rat))], [(.p (.n 4294967296) (.p (.n 4294967296) (.n 4294967296))), (.p (.n 4294967296) (.p (.n 4294967296) (.n 4294967296)))], fun _ => [], fun b z => (fun (p : Rat × Rat × Rat) (q : Rat × Rat × Rat) => .c (.agg [.dt tV3 (bV3 ((b0 b).mx + (b1 b).mx + 1)) (addV p q)])) z.1 z.2⟩
theorem Th : Tg.OK Tryz.prog := mkF hmix 20 Tryz.func21 rfl rfl (by decide) [(53, .c IO)] (fun _ => rfl) (fun _ => rfl) (fun _ _ => rfl) (fun (p : Rat × Rat × Rat) (q : Rat × Rat × Rat) b hx hp => zq (C5 (Bnds.h2 hx).1 (Bnds.h2 hx).2)) (fun (p : Rat × Rat × Rat) (q : Rat × Rat × Rat) hx hp => by
 exact ⟨.nil, kcast (by kernel_rfl) ((rfl : (p.1 + q.1, p.2.1 + q.2.1, p.2.2 + q.2.2) = addV p q))⟩)
abbrev K3 : Ctr Tryz.prog := FI.c Th
abbrev Ny : FI := ⟨130, [.rat, (.pr .rat (.pr .rat .rat))], [(.n 4294967296), (.p (.n 4294967296) (.p (.n 4294967296) (.n 4294967296)))], fun _ => [], fun b z => (fun (r : Rat) (q : Rat × Rat × Rat) => .c (.agg [.dt tV3 (bV3 ((b0 b).mx + (b1 b).mx)) (qh r q)])) z.1 z.2⟩
theorem Nz : Ny.OK Tryz.prog := mkF hmix 11 Tryz.func130 rfl rfl (by decide) [] (fun _ => rfl) (fun _ => rfl) (fun _ _ => rfl) (fun (r : Rat) (q : Rat × Rat × Rat) b hx hp => zq (BQ (Bnds.h2 hx).1 (Bnds.h2 hx).2)) (fun (r : Rat) (q : Rat × Rat × Rat) hx hp => by
 exact ⟨.h 1 5 (.c LX) (.nil), kcast (by kernel_rfl) ((rfl : mulV (r, r, r) q = qh r q))⟩)
abbrev CT : Ctr Tryz.prog := FI.c Nz
abbrev NA : FI := ⟨22, [.rat, (.pr .rat (.pr .rat .rat))], [(.n 4294967296), (.p (.n 4294967296) (.p (.n 4294967296) (.n 4294967296)))], fun _ => [], fun b z => (fun (r : Rat) (q : Rat × Rat × Rat) => .c (.agg [.dt tV3 (bV3 ((b0 b).mx + (b1 b).mx)) (qh r q)])) z.1 z.2⟩
theorem NB : NA.OK Tryz.prog := mkF hmix 18 Tryz.func22 rfl rfl (by decide) [(27, .c IP)] (fun _ => rfl) (fun _ => rfl) (fun _ _ => rfl) (fun (r : Rat) (q : Rat × Rat × Rat) b hx hp => zq (BQ (Bnds.h2 hx).1 (Bnds.h2 hx).2)) (fun (r : Rat) (q : Rat × Rat × Rat) hx hp => by
 exact ⟨.nil, kcast (by kernel_rfl) ((rfl : (r * q.1, r * q.2.1, r * q.2.2) = qh r q))⟩)
abbrev CU : Ctr Tryz.prog := FI.c NB
abbrev Ti : FI := ⟨72, [(.pr .rat (.pr .rat .rat)), (.pr .rat (.pr .rat .rat))], [(.p (.n 4294967296) (.p (.n 4294967296) (.n 4294967296))), (.p (.n 4294967296) (.p (.n 4294967296) (.n 4294967296)))], fun _ => [], fun b z => (fun (p : Rat × Rat × Rat) (q : Rat × Rat × Rat) => .c (.agg [.dt .rat (.n (3 * ((b0 b).mx + (b1 b).mx) + 2)) (dotQ p q)])) z.1 z.2⟩
theorem Tj : Ti.OK Tryz.prog := mkF hmix 21 Tryz.func72 rfl rfl (by decide) [(74, .c F1), (139, .c JL)] (fun _ => rfl) (fun _ => rfl) (fun _ _ => rfl) (fun (p : Rat × Rat × Rat) (q : Rat × Rat × Rat) b hx hp => jh (Hr (Bnds.h2 hx).1 (Bnds.h2 hx).2)) (fun (p : Rat × Rat × Rat) (q : Rat × Rat × Rat) hx hp => by
 exact ⟨.nil, kcast (by kernel_rfl) ((by rw [Rat.zero_add]; rfl : ((0 + (p.1 * q.1)) + (p.2.1 * q.2.1)) + (p.2.2 * q.2.2) = dotQ p q))⟩)
abbrev wU : Ctr Tryz.prog := FI.c Tj
abbrev Tk : FI := ⟨33, [(.pr .rat (.pr .rat .rat)), (.pr .rat (.pr .rat .rat))], [(.p (.n 4294967296) (.p (.n 4294967296) (.n 4294967296))), (.p (.n 4294967296) (.p (.n 4294967296) (.n 4294967296)))], fun _ => [], fun b z => (fun (p : Rat × Rat × Rat) (q : Rat × Rat × Rat) => .c (.agg [.dt .rat (.n (3 * ((b0 b).mx + (b1 b).mx) + 2)) (dotQ p q)])) z.1 z.2⟩
theorem Tl : Tk.OK Tryz.prog := mkF hmix 21 Tryz.func33 rfl rfl (by decide) [(27, .c IP), (53, .c IO)] (fun _ => rfl) (fun _ => rfl) (fun _ _ => rfl) (fun (p : Rat × Rat × Rat) (q : Rat × Rat × Rat) b hx hp => jh (Hr (Bnds.h2 hx).1 (Bnds.h2 hx).2)) (fun (p : Rat × Rat × Rat) (q : Rat × Rat × Rat) hx hp => by
 exact ⟨.nil, kcast (by kernel_rfl) ((by rw [Rat.zero_add]; rfl : ((0 + (p.1 * q.1)) + (p.2.1 * q.2.1)) + (p.2.2 * q.2.2) = dotQ p q))⟩)
abbrev Bg : Ctr Tryz.prog := FI.c Tl
abbrev Nt : FI := ⟨136, [(.pr .rat (.pr .rat .rat)), (.pr .rat (.pr .rat .rat))], [(.p (.n 4294967296) (.p (.n 4294967296) (.n 4294967296))), (.p (.n 4294967296) (.p (.n 4294967296) (.n 4294967296)))], fun _ => [], fun b z => (fun (p : Rat × Rat × Rat) (q : Rat × Rat × Rat) => .c (.agg [.dt tV3 (bV3 (2 * ((b0 b).mx + (b1 b).mx) + 1)) (qb p q)])) z.1 z.2⟩
theorem Nu : Nt.OK Tryz.prog := mkF hmix 37 Tryz.func136 rfl rfl (by decide) [(71, .c F2), (74, .c F1)] (fun _ => rfl) (fun _ => rfl) (fun _ _ => rfl) (fun (p : Rat × Rat × Rat) (q : Rat × Rat × Rat) b hx hp => zq (DN (Bnds.h2 hx).1 (Bnds.h2 hx).2)) (fun (p : Rat × Rat × Rat) (q : Rat × Rat × Rat) hx hp => by
 exact ⟨.nil, kcast (by kernel_rfl) ((rfl : ((p.2.1 * q.2.2) - (p.2.2 * q.2.1), (p.2.2 * q.1) - (p.1 * q.2.2), (p.1 * q.2.1) - (p.2.1 * q.1)) = qb p q))⟩)
abbrev AE : Ctr Tryz.prog := FI.c Nu
abbrev Nv : FI := ⟨118, [(.pr .rat (.pr .rat .rat)), (.pr .rat (.pr .rat .rat))], [(.p (.n 4294967296) (.p (.n 4294967296) (.n 4294967296))), (.p (.n 4294967296) (.p (.n 4294967296) (.n 4294967296)))], fun _ => [], fun b z => (fun (p : Rat × Rat × Rat) (q : Rat × Rat × Rat) => .c (.agg [.dt tV3 (bV3 (2 * ((b0 b).mx + (b1 b).mx) + 1)) (qb p q)])) z.1 z.2⟩
theorem Nw : Nv.OK Tryz.prog := mkF hmix 37 Tryz.func118 rfl rfl (by decide) [(27, .c IP), (28, .c CX)] (fun _ => rfl) (fun _ => rfl) (fun _ _ => rfl) (fun (p : Rat × Rat × Rat) (q : Rat × Rat × Rat) b hx hp => zq (DN (Bnds.h2 hx).1 (Bnds.h2 hx).2)) (fun (p : Rat × Rat × Rat) (q : Rat × Rat × Rat) hx hp => by
 exact ⟨.nil, kcast (by kernel_rfl) ((rfl : ((p.2.1 * q.2.2) - (p.2.2 * q.2.1), (p.2.2 * q.1) - (p.1 * q.2.2), (p.1 * q.2.1) - (p.2.1 * q.1)) = qb p q))⟩)
abbrev AF : Ctr Tryz.prog := FI.c Nw
abbrev Vr : FI := ⟨194, [.rat], [(.n 1099511627776)], fun _ => [], fun b z => (fun (x : Rat) => .c (.agg [.dt .rat (b0 b) x])) z⟩
theorem Vs : Vr.OK Tryz.prog := mkF hmix 12 Tryz.func194 rfl rfl (by decide) [(209, .c Bo)] (fun _ => rfl) (fun _ => rfl) (fun _ _ => rfl) (fun (x : Rat) b hx hp => jh (Bnds.h1 hx)) (fun (x : Rat) hx hp => by
 have hx0 : Bnd .rat (.n 1099511627776) x := hx
 exact ⟨.h 1 7 (.c A1) (.h 1 8 (.rat x 1099511627776) (.nil)), kcast (by kernel_rfl) (I (Eq.refl (decide (x.num < 0))) (I (Eq.refl x.num.natAbs) (I (Eq.refl (denL x.den)) (I (hx0.1 : lt2 x.num.natAbs 1099511627776) (I (hx0.2 : le2 x.den 1099511627776) ((Eq.refl x)))))))⟩)
abbrev Vq : Ctr Tryz.prog := FI.c Vs
abbrev ON : FI := ⟨122, [(.pr .rat (.pr .rat .rat))], [(.p (.n 1099511627776) (.p (.n 1099511627776) (.n 1099511627776)))], fun _ => [], fun b z => (fun (x : Rat × Rat × Rat) => .c (.agg [.dt tV3 (b0 b) x])) z⟩
theorem OO : ON.OK Tryz.prog := mkF hmix 13 Tryz.func122 rfl rfl (by decide) [(194, .c Vq)] (fun _ => rfl) (fun _ => rfl) (fun _ _ => rfl) (fun (x : Rat × Rat × Rat) b hx hp => jh (Bnds.h1 hx)) (fun (x : Rat × Rat × Rat) hx hp => by
 exact ⟨.nil, kcast (by kernel_rfl) ((rfl : (x.1, x.2.1, x.2.2) = x))⟩)
abbrev OM : Ctr Tryz.prog := FI.c OO
abbrev QQ : FB := ⟨19, (.pr (.sl (.int .i64)) (.nat .i64)), (.p (.s 1048576 (.n 9223372036854775808)) (.n 1048576)), [], [], fun s z => [], fun tb b s z => .c (.agg [.dt tV3 (bV3 (5)) (ju s)]), fun s z => qY s, fun tb b => .p tb.l (.n (max tb.r.nb tb.l.len))⟩
theorem QR : QQ.OK Tryz.prog := mkB' hmix 22 Tryz.func19 rfl rfl (by decide) [(20, .b Qw), (24, .b Fv), (29, .c Fk), (75, .c K7)] (fun _ => rfl) (fun _ _ => rfl) (fun _ _ _ _ => rfl) (fun (s : List Int × Nat)  tb b hs hx hp => ⟨zq (Dp s), T7 hs⟩) (fun (s : List Int × Nat)  hs hx hp => by
 exact ⟨.nil, kcast (by kernel_rfl) (I (by omega : (0 : Int) < 5) (I (by omega : (0 : Int) < 4) (And.intro (fun (h1 : decide (qc (q6 s) 4 = 4 - 1) = true) => I (by omega : (0 : Int) < 9) (I (by omega : (0 : Int) < 5) (I (by omega : (0 : Int) < 4) (And.intro (fun (h2 : decide (qc (q6 (q6 (q6 (q6 s)))) 4 = 4 - 1) = true) => I (by omega : (0 : Int) < 9) (I (by omega : (0 : Int) < 5) (I (by omega : (0 : Int) < 4) (And.intro (fun (h3 : decide (qc (q6 (q6 (q6 (q6 (q6 (q6 (q6 s))))))) 4 = 4 - 1) = true) => I (by omega : (0 : Int) < 9) (And.intro (by unfold qY oneS; simp only [if_pos (show qc (q6 s) 4 = 3 from (yd h1)), if_pos (show qc (q6 (q6 (q6 (q6 s)))) 4 = 3 from (yd h2)), if_pos (show qc (q6 (q6 (q6 (q6 (q6 (q6 (q6 s))))))) 4 = 3 from (yd h3))] : q6 (q6 (q6 (q6 (q6 (q6 (q6 (q6 (q6 s)))))))) = qY s) ((by unfold ju oneV oneS; simp only [if_pos (show qc (q6 s) 4 = 3 from (yd h1)), if_pos (show qc (q6 (q6 (q6 (q6 s)))) 4 = 3 from (yd h2)), if_pos (show qc (q6 (q6 (q6 (q6 (q6 (q6 (q6 s))))))) 4 = 3 from (yd h3))] : (((qc (q6 (q6 s)) 9 : Int) : Rat) / ((2 : Int) : Rat), ((qc (q6 (q6 (q6 (q6 (q6 s))))) 9 : Int) : Rat) / ((2 : Int) : Rat), ((qc (q6 (q6 (q6 (q6 (q6 (q6 (q6 (q6 s)))))))) 9 : Int) : Rat) / ((2 : Int) : Rat)) = ju s)))) (fun (h4 : ¬ (decide (qc (q6 (q6 (q6 (q6 (q6 (q6 (q6 s))))))) 4 = 4 - 1) = true)) => And.intro (by unfold qY oneS; simp only [if_pos (show qc (q6 s) 4 = 3 from (yd h1)), if_pos (show qc (q6 (q6 (q6 (q6 s)))) 4 = 3 from (yd h2)), if_neg (show ¬ qc (q6 (q6 (q6 (q6 (q6 (q6 (q6 s))))))) 4 = 3 from (yd' h4))] : q6 (q6 (q6 (q6 (q6 (q6 (q6 (q6 s))))))) = qY s) ((by unfold ju oneV oneS; simp only [if_pos (show qc (q6 s) 4 = 3 from (yd h1)), if_pos (show qc (q6 (q6 (q6 (q6 s)))) 4 = 3 from (yd h2)), if_neg (show ¬ qc (q6 (q6 (q6 (q6 (q6 (q6 (q6 s))))))) 4 = 3 from (yd' h4))] : (((qc (q6 (q6 s)) 9 : Int) : Rat) / ((2 : Int) : Rat), ((qc (q6 (q6 (q6 (q6 (q6 s))))) 9 : Int) : Rat) / ((2 : Int) : Rat), ((qc (q6 (q6 (q6 (q6 (q6 (q6 s)))))) 5 : Int) : Rat)) = ju s))))))) (fun (h5 : ¬ (decide (qc (q6 (q6 (q6 (q6 s)))) 4 = 4 - 1) = true)) => I (by omega : (0 : Int) < 5) (I (by omega : (0 : Int) < 4) (And.intro (fun (h6 : decide (qc (q6 (q6 (q6 (q6 (q6 (q6 s)))))) 4 = 4 - 1) = true) => I (by omega : (0 : Int) < 9) (And.intro (by unfold qY oneS; simp only [if_pos (show qc (q6 s) 4 = 3 from (yd h1)), if_neg (show ¬ qc (q6 (q6 (q6 (q6 s)))) 4 = 3 from (yd' h5)), if_pos (show qc (q6 (q6 (q6 (q6 (q6 (q6 s)))))) 4 = 3 from (yd h6))] : q6 (q6 (q6 (q6 (q6 (q6 (q6 (q6 s))))))) = qY s) ((by unfold ju oneV oneS; simp only [if_pos (show qc (q6 s) 4 = 3 from (yd h1)), if_neg (show ¬ qc (q6 (q6 (q6 (q6 s)))) 4 = 3 from (yd' h5)), if_pos (show qc (q6 (q6 (q6 (q6 (q6 (q6 s)))))) 4 = 3 from (yd h6))] : (((qc (q6 (q6 s)) 9 : Int) : Rat) / ((2 : Int) : Rat), ((qc (q6 (q6 (q6 s))) 5 : Int) : Rat), ((qc (q6 (q6 (q6 (q6 (q6 (q6 (q6 s))))))) 9 : Int) : Rat) / ((2 : Int) : Rat)) = ju s)))) (fun (h7 : ¬ (decide (qc (q6 (q6 (q6 (q6 (q6 (q6 s)))))) 4 = 4 - 1) = true)) => And.intro (by unfold qY oneS; simp only [if_pos (show qc (q6 s) 4 = 3 from (yd h1)), if_neg (show ¬ qc (q6 (q6 (q6 (q6 s)))) 4 = 3 from (yd' h5)), if_neg (show ¬ qc (q6 (q6 (q6 (q6 (q6 (q6 s)))))) 4 = 3 from (yd' h7))] : q6 (q6 (q6 (q6 (q6 (q6 (q6 s)))))) = qY s) ((by unfold ju oneV oneS; simp only [if_pos (show qc (q6 s) 4 = 3 from (yd h1)), if_neg (show ¬ qc (q6 (q6 (q6 (q6 s)))) 4 = 3 from (yd' h5)), if_neg (show ¬ qc (q6 (q6 (q6 (q6 (q6 (q6 s)))))) 4 = 3 from (yd' h7))] : (((qc (q6 (q6 s)) 9 : Int) : Rat) / ((2 : Int) : Rat), ((qc (q6 (q6 (q6 s))) 5 : Int) : Rat), ((qc (q6 (q6 (q6 (q6 (q6 s))))) 5 : Int) : Rat)) = ju s)))))))))) (fun (h8 : ¬ (decide (qc (q6 s) 4 = 4 - 1) = true)) => I (by omega : (0 : Int) < 5) (I (by omega : (0 : Int) < 4) (And.intro (fun (h9 : decide (qc (q6 (q6 (q6 s))) 4 = 4 - 1) = true) => I (by omega : (0 : Int) < 9) (I (by omega : (0 : Int) < 5) (I (by omega : (0 : Int) < 4) (And.intro (fun (h10 : decide (qc (q6 (q6 (q6 (q6 (q6 (q6 s)))))) 4 = 4 - 1) = true) => I (by omega : (0 : Int) < 9) (And.intro (by unfold qY oneS; simp only [if_neg (show ¬ qc (q6 s) 4 = 3 from (yd' h8)), if_pos (show qc (q6 (q6 (q6 s))) 4 = 3 from (yd h9)), if_pos (show qc (q6 (q6 (q6 (q6 (q6 (q6 s)))))) 4 = 3 from (yd h10))] : q6 (q6 (q6 (q6 (q6 (q6 (q6 (q6 s))))))) = qY s) ((by unfold ju oneV oneS; simp only [if_neg (show ¬ qc (q6 s) 4 = 3 from (yd' h8)), if_pos (show qc (q6 (q6 (q6 s))) 4 = 3 from (yd h9)), if_pos (show qc (q6 (q6 (q6 (q6 (q6 (q6 s)))))) 4 = 3 from (yd h10))] : (((qc s 5 : Int) : Rat), ((qc (q6 (q6 (q6 (q6 s)))) 9 : Int) : Rat) / ((2 : Int) : Rat), ((qc (q6 (q6 (q6 (q6 (q6 (q6 (q6 s))))))) 9 : Int) : Rat) / ((2 : Int) : Rat)) = ju s)))) (fun (h11 : ¬ (decide (qc (q6 (q6 (q6 (q6 (q6 (q6 s)))))) 4 = 4 - 1) = true)) => And.intro (by unfold qY oneS; simp only [if_neg (show ¬ qc (q6 s) 4 = 3 from (yd' h8)), if_pos (show qc (q6 (q6 (q6 s))) 4 = 3 from (yd h9)), if_neg (show ¬ qc (q6 (q6 (q6 (q6 (q6 (q6 s)))))) 4 = 3 from (yd' h11))] : q6 (q6 (q6 (q6 (q6 (q6 (q6 s)))))) = qY s) ((by unfold ju oneV oneS; simp only [if_neg (show ¬ qc (q6 s) 4 = 3 from (yd' h8)), if_pos (show qc (q6 (q6 (q6 s))) 4 = 3 from (yd h9)), if_neg (show ¬ qc (q6 (q6 (q6 (q6 (q6 (q6 s)))))) 4 = 3 from (yd' h11))] : (((qc s 5 : Int) : Rat), ((qc (q6 (q6 (q6 (q6 s)))) 9 : Int) : Rat) / ((2 : Int) : Rat), ((qc (q6 (q6 (q6 (q6 (q6 s))))) 5 : Int) : Rat)) = ju s))))))) (fun (h12 : ¬ (decide (qc (q6 (q6 (q6 s))) 4 = 4 - 1) = true)) => I (by omega : (0 : Int) < 5) (I (by omega : (0 : Int) < 4) (And.intro (fun (h13 : decide (qc (q6 (q6 (q6 (q6 (q6 s))))) 4 = 4 - 1) = true) => I (by omega : (0 : Int) < 9) (And.intro (by unfold qY oneS; simp only [if_neg (show ¬ qc (q6 s) 4 = 3 from (yd' h8)), if_neg (show ¬ qc (q6 (q6 (q6 s))) 4 = 3 from (yd' h12)), if_pos (show qc (q6 (q6 (q6 (q6 (q6 s))))) 4 = 3 from (yd h13))] : q6 (q6 (q6 (q6 (q6 (q6 (q6 s)))))) = qY s) ((by unfold ju oneV oneS; simp only [if_neg (show ¬ qc (q6 s) 4 = 3 from (yd' h8)), if_neg (show ¬ qc (q6 (q6 (q6 s))) 4 = 3 from (yd' h12)), if_pos (show qc (q6 (q6 (q6 (q6 (q6 s))))) 4 = 3 from (yd h13))] : (((qc s 5 : Int) : Rat), ((qc (q6 (q6 s)) 5 : Int) : Rat), ((qc (q6 (q6 (q6 (q6 (q6 (q6 s)))))) 9 : Int) : Rat) / ((2 : Int) : Rat)) = ju s)))) (fun (h14 : ¬ (decide (qc (q6 (q6 (q6 (q6 (q6 s))))) 4 = 4 - 1) = true)) => And.intro (by unfold qY oneS; simp only [if_neg (show ¬ qc (q6 s) 4 = 3 from (yd' h8)), if_neg (show ¬ qc (q6 (q6 (q6 s))) 4 = 3 from (yd' h12)), if_neg (show ¬ qc (q6 (q6 (q6 (q6 (q6 s))))) 4 = 3 from (yd' h14))] : q6 (q6 (q6 (q6 (q6 (q6 s))))) = qY s) ((by unfold ju oneV oneS; simp only [if_neg (show ¬ qc (q6 s) 4 = 3 from (yd' h8)), if_neg (show ¬ qc (q6 (q6 (q6 s))) 4 = 3 from (yd' h12)), if_neg (show ¬ qc (q6 (q6 (q6 (q6 (q6 s))))) 4 = 3 from (yd' h14))] : (((qc s 5 : Int) : Rat), ((qc (q6 (q6 s)) 5 : Int) : Rat), ((qc (q6 (q6 (q6 (q6 s)))) 5 : Int) : Rat)) = ju s))))))))))))⟩)
abbrev QP : CtrB Tryz.prog := FB.c QR
abbrev U5 : FI := ⟨54, [(.int .i64), (.int .i64), (.int .i64)], [(.n 1099511627776), (.n 1099511627776), (.n 1099511627776)], fun _ => [], fun b z => (fun (x : Int) (y : Int) (z : Int) => .c (.agg [.dt tV3 (bV3 (max (Nat.log2 (b0 b).nb + 1) (max (Nat.log2 (b1 b).nb + 1) (Nat.log2 (b2 b).nb + 1)))) ((x : Rat), (y : Rat), (z : Rat))])) z.1 z.2.1 z.2.2⟩
theorem U6 : U5.OK Tryz.prog := mkF hmix 14 Tryz.func54 rfl rfl (by decide) [(29, .c Fk)] (fun _ => rfl) (fun _ => rfl) (fun _ _ => rfl) (fun (x : Int) (y : Int) (z : Int) b hx hp => zq ⟨j8 (wM (Bnds.h3 hx).1.int) (by omega), j8 (wM (Bnds.h3 hx).2.1.int) (by omega), j8 (wM (Bnds.h3 hx).2.2.int) (by omega)⟩) (fun (x : Int) (y : Int) (z : Int) hx hp => by
 exact ⟨.nil, kcast (by kernel_rfl) ((rfl : ((x : Rat), (y : Rat), (z : Rat)) = (((x : Int) : Rat), ((y : Int) : Rat), ((z : Int) : Rat))))⟩)
abbrev U4 : Ctr Tryz.prog := FI.c U6
theorem jU (x : Rat) : 0 ≤ x * x := by
 rcases Rat.le_total (a := 0) (b := x) with h | h
 ·exact Rat.mul_nonneg h h
 ·have := Rat.mul_nonneg (show 0 ≤ -x by grind) (show 0 ≤ -x by grind); grind
theorem vi (v : V3) : 0 ≤ dotQ v v := by
 have h1 := jU v.1; have h2 := jU v.2.1; have h3 := jU v.2.2
 unfold dotQ; grind
theorem G4 {x : Rat} (h : x * x = 0) : x = 0 := by
 rcases Rat.mul_eq_zero.1 h with h | h <;> exact h
theorem vG {v : V3} (h : dotQ v v = 0) : v = (0, 0, 0) := by
 have h1 := jU v.1; have h2 := jU v.2.1; have h3 := jU v.2.2
 unfold dotQ at h
 have a := G4 (show v.1 * v.1 = 0 by grind); have b := G4 (show v.2.1 * v.2.1 = 0 by grind); have c := G4 (show v.2.2 * v.2.2 = 0 by grind)
 exact vq.2 ⟨a, b, c⟩
theorem div_eq {x y : Rat} (h : y ≠ 0) : x / y * y = x := Rat.div_mul_cancel h
theorem zw {x y : Rat} (h : 0 ≤ x) (k : 0 < y) : 0 ≤ x / y := by
 rcases Rat.le_total (a := 0) (b := x / y) with h1 | h1
 ·exact h1
 ·have e := div_eq (x := x) (y := y) (by grind)
  have := Rat.mul_nonneg (show 0 ≤ -(x / y) by grind) (Rat.le_of_lt k)
  have hx : x = 0 := by grind
  rw [hx, Rat.div_def, Rat.zero_mul]; exact Rat.le_refl
theorem D2 {x y : Rat} (h : x ≤ y) (k : 0 < y) : x / y ≤ 1 := by
 have e := div_eq (x := x) (y := y) (by grind)
 have e2 := zw (show 0 ≤ y - x by grind) k
 have e3 : (y - x) / y = 1 - x / y := by
  have q := div_eq (x := y - x) (y := y) (by grind)
  have : ((y - x) / y - (1 - x / y)) * y = 0 := by grind
  rcases Rat.mul_eq_zero.1 this with h | h <;> grind
 grind
def onS (a b : V3) (s : Rat) : V3 := addV a (qh s (subV b a))
def d2 (p q : V3) : Rat := dotQ (subV p q) (subV p q)
def segQ (a b p : V3) : Rat :=
 if dotQ (subV p a) (subV b a) ≤ 0 then d2 p a else if dotQ (subV b a) (subV b a) ≤ dotQ (subV p a) (subV b a) then d2 p b
 else d2 p (onS a b (dotQ (subV p a) (subV b a) / dotQ (subV b a) (subV b a)))
theorem LK (a b p : V3) (s : Rat) : d2 p (onS a b s) = d2 p a - 2 * s * dotQ (subV p a) (subV b a) + s * s * dotQ (subV b a) (subV b a) := by
 obtain ⟨a1, a2, a3⟩ := a; obtain ⟨b1, b2, b3⟩ := b; obtain ⟨p1, p2, p3⟩ := p
 simp only [d2, onS, dotQ, subV, addV, qh]; grind
theorem d2_b (a b p : V3) : d2 p b = d2 p a - 2 * dotQ (subV p a) (subV b a) + dotQ (subV b a) (subV b a) := by
 obtain ⟨a1, a2, a3⟩ := a; obtain ⟨b1, b2, b3⟩ := b; obtain ⟨p1, p2, p3⟩ := p
 simp only [d2, dotQ, subV]; grind
theorem Q1 (p q : V3) : 0 ≤ d2 p q := vi _
theorem W7 {x n c s : Rat} (hn : 0 ≤ n) (h0 : 0 ≤ s) (h1 : s ≤ 1) : (if x ≤ 0 then c else if n ≤ x then c - 2 * x + n else c - 2 * (x / n) * x + x / n * (x / n) * n) ≤ c - 2 * s * x + s * s * n := by
 split
 ·have := Rat.mul_nonneg h0 (show 0 ≤ -x by grind); have := Rat.mul_nonneg (jU s) hn; grind
 ·split
  ·have := Rat.mul_nonneg (show 0 ≤ 1 - s by grind) (show 0 ≤ x - n by grind)
   have := Rat.mul_nonneg (jU (1 - s)) hn
   grind
  ·have hn0 : n ≠ 0 := by grind
   have e := div_eq (x := x) hn0
   generalize x / n = t at *
   have := Rat.mul_nonneg (jU (s - t)) hn
   subst e
   grind
theorem I9 (a b p : V3) {s : Rat} (h0 : 0 ≤ s) (h1 : s ≤ 1) : segQ a b p ≤ d2 p (onS a b s) := by
 unfold segQ
 rw [LK, LK, d2_b a b p]
 exact W7 (vi _) h0 h1
theorem Ia (a b p : V3) : 0 ≤ segQ a b p := by
 unfold segQ; split
 ·exact Q1 _ _
 ·split <;> exact Q1 _ _
theorem AW {x y : Rat} : 0 < cmpQ x y ↔ y < x := by unfold cmpQ; (repeat' split) <;> grind
theorem D0 {x y : Rat} : cmpQ x y < 0 ↔ x < y := by unfold cmpQ; (repeat' split) <;> grind
theorem BK (x y : Rat) : minQ x y = min x y := by unfold minQ; split <;> rename_i h <;> rw [D0] at h <;> grind
theorem OB (x y : Rat) : maxQ x y = max x y := by unfold maxQ; split <;> rename_i h <;> rw [AW] at h <;> grind
def clamp (t : Rat) : Rat := maxQ 0 (minQ 1 t)
theorem GV (a b : V3) : onS a b 0 = a := by simp only [onS, addV, qh, subV]; rw [vq]; grind
theorem XH (a b : V3) : onS a b 1 = b := by simp only [onS, addV, qh, subV]; rw [vq]; grind
theorem O2 {x n : Rat} (h : n ≠ 0) : (x - n) / n = x / n - 1 := by
 have q := div_eq (x := x - n) h
 have e := div_eq (x := x) h
 have : ((x - n) / n - (x / n - 1)) * n = 0 := by grind
 rcases Rat.mul_eq_zero.1 this with h | h <;> grind
theorem Qm {x n : Rat} (h0 : 0 < n) : clamp (x / n) = if x ≤ 0 then 0 else if n ≤ x then 1 else x / n := by
 unfold clamp
 rw [OB, BK]
 split
 ·have := zw (show 0 ≤ -x by grind) h0
  have e2 : -x / n = -(x / n) := by rw [Rat.div_def, Rat.div_def, Rat.neg_mul]
  grind
 ·split
  ·have h2 := zw (show 0 ≤ x - n by grind) h0
   rw [O2 (by grind)] at h2
   grind
  ·have h1 := zw (show 0 ≤ x by grind) h0
   have h2 := D2 (show x ≤ n by grind) h0
   grind
theorem Pa (a b p : V3) (h : dotQ (subV b a) (subV b a) ≠ 0) : segQ a b p = d2 p (onS a b (clamp (dotQ (subV p a) (subV b a) / dotQ (subV b a) (subV b a)))) := by
 have hn := vi (subV b a)
 rw [Qm (by grind)]
 unfold segQ
 split
 ·rw [GV]
 ·split
  ·rw [XH]
  ·rfl
theorem P9 (a b p : V3) (h : dotQ (subV b a) (subV b a) = 0) : segQ a b p = d2 p a := by
 have e := vG h
 have : dotQ (subV p a) (subV b a) = 0 := by rw [e]; simp only [dotQ]; grind
 unfold segQ
 rw [this, if_pos Rat.le_refl]
section
abbrev T3 : Type := V3 × V3 × V3
def zQ (t : T3) (p : V3) : Rat := minQ (minQ (segQ t.1 t.2.1 p) (segQ t.2.1 t.2.2 p)) (segQ t.2.2 t.1 p)
def qy (t : T3) : V3 := qb (subV t.2.1 t.1) (subV t.2.2 t.1)
def jS (N a b p : V3) : Prop := dotQ (qb (subV b a) N) a < dotQ (qb (subV b a) N) p
instance (N a b p : V3) : Decidable (jS N a b p) := by unfold jS; infer_instance
def j9 (t : T3) (p : V3) : Rat :=
 if qy t = (0, 0, 0) then zQ t p else if jS (qy t) t.1 t.2.1 p ∨ jS (qy t) t.2.1 t.2.2 p ∨ jS (qy t) t.2.2 t.1 p then zQ t p
 else (dotQ (qy t) p - dotQ (qy t) t.1) * (dotQ (qy t) p - dotQ (qy t) t.1) / dotQ (qy t) (qy t)
theorem Mq {a b : Rat} (h : 0 ≤ a) (k : 0 ≤ b) : 0 ≤ minQ a b := by rw [BK]; grind
theorem HF (t : T3) (p : V3) : 0 ≤ zQ t p := Mq (Mq (Ia _ _ _) (Ia _ _ _)) (Ia _ _ _)
theorem QD (t : T3) (p : V3) : 0 ≤ j9 t p := by
 unfold j9
 split
 ·exact HF _ _
 ·rename_i h
  split
  ·exact HF _ _
  ·refine zw (jU _) ?_
   have h1 := vi (qy t)
   have h2 : dotQ (qy t) (qy t) ≠ 0 := fun e => h (vG e)
   grind
def phi (E F G a b c u v : Rat) : Rat := u * u * E + 2 * u * v * F + v * v * G - 2 * u * a - 2 * v * b + c
section
variable (e1 e2 w : V3)
theorem lagr : dotQ (qb e1 e2) (qb e1 e2) = dotQ e1 e1 * dotQ e2 e2 - dotQ e1 e2 * dotQ e1 e2 := by
 obtain ⟨a1, a2, a3⟩ := e1; obtain ⟨b1, b2, b3⟩ := e2
 simp only [dotQ, qb]; grind
theorem gramd : dotQ (qb e1 e2) w * dotQ (qb e1 e2) w = dotQ e1 e1 * dotQ e2 e2 * dotQ w w + 2 * dotQ e1 e2 * dotQ w e1 * dotQ w e2 - dotQ e1 e1 * dotQ w e2 * dotQ w e2 - dotQ e2 e2 * dotQ w e1 * dotQ w e1 - dotQ e1 e2 * dotQ e1 e2 * dotQ w w := by
 obtain ⟨a1, a2, a3⟩ := e1; obtain ⟨b1, b2, b3⟩ := e2; obtain ⟨w1, w2, w3⟩ := w
 simp only [dotQ, qb]; grind
theorem tri1 : dotQ (qb e1 (qb e1 e2)) w = dotQ e1 e2 * dotQ w e1 - dotQ e1 e1 * dotQ w e2 := by
 obtain ⟨a1, a2, a3⟩ := e1; obtain ⟨b1, b2, b3⟩ := e2; obtain ⟨w1, w2, w3⟩ := w
 simp only [dotQ, qb]; grind
theorem tri2 : dotQ (qb e2 (qb e1 e2)) w = dotQ e2 e2 * dotQ w e1 - dotQ e1 e2 * dotQ w e2 := by
 obtain ⟨a1, a2, a3⟩ := e1; obtain ⟨b1, b2, b3⟩ := e2; obtain ⟨w1, w2, w3⟩ := w
 simp only [dotQ, qb]; grind
end
theorem zK (n p a : V3) : dotQ n (subV p a) = dotQ n p - dotQ n a := by
 obtain ⟨a1, a2, a3⟩ := a; obtain ⟨b1, b2, b3⟩ := n; obtain ⟨w1, w2, w3⟩ := p
 simp only [dotQ, subV]; grind
theorem M6 (a b c p : V3) : jS (qb (subV b a) (subV c a)) a b p ↔ 0 < dotQ (qb (subV b a) (qb (subV b a) (subV c a))) (subV p a) := by
 unfold jS; rw [zK]; grind
theorem M8 (a b c p : V3) : jS (qb (subV b a) (subV c a)) c a p ↔ dotQ (qb (subV c a) (qb (subV b a) (subV c a))) (subV p a) < 0 := by
 have h1 : dotQ (qb (subV a c) (qb (subV b a) (subV c a))) p = -dotQ (qb (subV c a) (qb (subV b a) (subV c a))) p := by
  generalize qb (subV b a) (subV c a) = N
  obtain ⟨a1, a2, a3⟩ := a; obtain ⟨b1, b2, b3⟩ := c; obtain ⟨w1, w2, w3⟩ := p; obtain ⟨n1, n2, n3⟩ := N
  simp only [dotQ, subV, qb]; grind
 have h2 : dotQ (qb (subV a c) (qb (subV b a) (subV c a))) c = -dotQ (qb (subV c a) (qb (subV b a) (subV c a))) a := by
  generalize qb (subV b a) (subV c a) = N
  obtain ⟨a1, a2, a3⟩ := a; obtain ⟨b1, b2, b3⟩ := c; obtain ⟨n1, n2, n3⟩ := N
  simp only [dotQ, subV, qb]; grind
 unfold jS; rw [zK, h1, h2]; grind
theorem M7 (a b c p : V3) : jS (qb (subV b a) (subV c a)) b c p ↔
    dotQ (qb (subV b a) (subV c a)) (qb (subV b a) (subV c a)) < dotQ (qb (subV c a) (qb (subV b a) (subV c a))) (subV p a) - dotQ (qb (subV b a) (qb (subV b a) (subV c a))) (subV p a) := by
  have h1 : dotQ (qb (subV c b) (qb (subV b a) (subV c a))) p = dotQ (qb (subV c a) (qb (subV b a) (subV c a))) p - dotQ (qb (subV b a) (qb (subV b a) (subV c a))) p := by
    generalize qb (subV b a) (subV c a) = N
    obtain ⟨a1, a2, a3⟩ := a; obtain ⟨b1, b2, b3⟩ := b; obtain ⟨c1, c2, c3⟩ := c; obtain ⟨w1, w2, w3⟩ := p; obtain ⟨n1, n2, n3⟩ := N
    simp only [dotQ, subV, qb]; grind
  have h2 : dotQ (qb (subV c b) (qb (subV b a) (subV c a))) b = dotQ (qb (subV b a) (subV c a)) (qb (subV b a) (subV c a)) + dotQ (qb (subV c a) (qb (subV b a) (subV c a))) a - dotQ (qb (subV b a) (qb (subV b a) (subV c a))) a := by
    obtain ⟨a1, a2, a3⟩ := a; obtain ⟨b1, b2, b3⟩ := b; obtain ⟨c1, c2, c3⟩ := c
    simp only [dotQ, subV, qb]; grind
  unfold jS; rw [zK, zK, h1, h2]; grind
theorem KQ (a b c p : V3) (u v : Rat) : d2 p (addV a (addV (qh u (subV b a)) (qh v (subV c a)))) =
    phi (dotQ (subV b a) (subV b a)) (dotQ (subV b a) (subV c a)) (dotQ (subV c a) (subV c a)) (dotQ (subV p a) (subV b a)) (dotQ (subV p a) (subV c a)) (dotQ (subV p a) (subV p a)) u v := by
  obtain ⟨a1, a2, a3⟩ := a; obtain ⟨b1, b2, b3⟩ := b; obtain ⟨c1, c2, c3⟩ := c; obtain ⟨w1, w2, w3⟩ := p
  simp only [d2, dotQ, subV, addV, qh, phi]; grind
theorem Xi (a b c : V3) (s : Rat) : onS a b s = addV a (addV (qh s (subV b a)) (qh 0 (subV c a))) := by
 simp only [onS, addV, qh, subV]; rw [vq]; grind
theorem Xj (a b c : V3) (s : Rat) : onS b c s = addV a (addV (qh (1 - s) (subV b a)) (qh s (subV c a))) := by
 simp only [onS, addV, qh, subV]; rw [vq]; grind
theorem Xk (a b c : V3) (s : Rat) : onS c a s = addV a (addV (qh 0 (subV b a)) (qh (1 - s) (subV c a))) := by
 simp only [onS, addV, qh, subV]; rw [vq]; grind
section
variable {E F G a b c K H : Rat}
theorem JK (hE : 0 < E) (hK : 0 ≤ E * G - F * F) (x y : Rat) : 0 ≤ x * x * E + 2 * x * y * F + y * y * G := by
 rcases Rat.le_total (a := 0) (b := x * x * E + 2 * x * y * F + y * y * G) with h | h
 ·exact h
 ·have h1 := jU (x * E + y * F)
  have h2 := Rat.mul_nonneg (jU y) hK
  have h3 := Rat.mul_nonneg (Rat.le_of_lt hE) (show 0 ≤ -(x * x * E + 2 * x * y * F + y * y * G) by grind)
  have h4 : E * (x * x * E + 2 * x * y * F + y * y * G) = 0 := by grind
  rcases Rat.mul_eq_zero.1 h4 with h5 | h5
  ·grind
  ·rw [h5]; exact Rat.le_refl
theorem ET (u v : Rat) (hK : K = E * G - F * F) (hH : H = E * G * c + 2 * F * a * b - E * b * b - G * a * a - F * F * c) :
    K * (K * phi E F G a b c u v - H) = (K * u - (G * a - F * b)) * (K * u - (G * a - F * b)) * E + 2 * (K * u - (G * a - F * b)) * (K * v - (E * b - F * a)) * F + (K * v - (E * b - F * a)) * (K * v - (E * b - F * a)) * G := by
  subst hK hH; unfold phi; grind
theorem zR {x K : Rat} (hK : 0 < K) (h : 0 ≤ K * x) : 0 ≤ x := by
 rcases Rat.le_total (a := 0) (b := x) with h1 | h1
 ·exact h1
 ·have h2 := Rat.mul_nonneg (Rat.le_of_lt hK) (show 0 ≤ -x by grind)
  have h3 : K * x = 0 := by grind
  rcases Rat.mul_eq_zero.1 h3 with h4 | h4 <;> grind
theorem OU (u v : Rat) (hE : 0 < E) (h0 : 0 < K) (hK : K = E * G - F * F) (hH : H = E * G * c + 2 * F * a * b - E * b * b - G * a * a - F * F * c) : H / K ≤ phi E F G a b c u v := by
 have h := JK hE (show 0 ≤ E * G - F * F by rw [← hK]; exact Rat.le_of_lt h0) (K * u - (G * a - F * b)) (K * v - (E * b - F * a))
 rw [← ET u v hK hH] at h
 have h := zR h0 h
 have e := div_eq (x := H) (show K ≠ 0 by grind)
 have := zR (x := phi E F G a b c u v - H / K) h0 (by grind)
 grind
theorem OT (u v x y s : Rat) (hs : 0 ≤ s) (hs1 : s ≤ 1) (hE : 0 < E) (h0 : 0 < K) (hK : K = E * G - F * F) (hx : K * x = (1 - s) * (K * u) + s * (G * a - F * b)) (hy : K * y = (1 - s) * (K * v) + s * (E * b - F * a)) :
    phi E F G a b c x y ≤ phi E F G a b c u v := by
  have h1 := ET (c := c) (a := a) (b := b) u v hK rfl
  have h2 := ET (c := c) (a := a) (b := b) x y hK rfl
  generalize E * G * c + 2 * F * a * b - E * b * b - G * a * a - F * F * c = H at *
  have e1 : K * x - (G * a - F * b) = (1 - s) * (K * u - (G * a - F * b)) := by grind
  have e2 : K * y - (E * b - F * a) = (1 - s) * (K * v - (E * b - F * a)) := by grind
  rw [e1, e2] at h2
  have hq := JK hE (show 0 ≤ E * G - F * F by rw [← hK]; exact Rat.le_of_lt h0) (K * u - (G * a - F * b)) (K * v - (E * b - F * a))
  generalize K * u - (G * a - F * b) = X at *; generalize K * v - (E * b - F * a) = Y at *
  have h3 := Rat.mul_nonneg (show 0 ≤ 1 - (1 - s) * (1 - s) by have := Rat.mul_nonneg hs (show 0 ≤ 2 - s by grind); grind) hq
  have h4 : 0 ≤ K * (K * (phi E F G a b c u v - phi E F G a b c x y)) := by grind
  have := zR h0 (zR h0 h4)
  grind
end
theorem ratio {β γ : Rat} (hb : 0 ≤ β) (hg : γ < 0) : 0 ≤ β / (β - γ) ∧ β / (β - γ) < 1 ∧ β + β / (β - γ) * (γ - β) = 0 := by
 have h0 : 0 < β - γ := by grind
 have h1 := zw hb h0
 have h2 := D2 (show β ≤ β - γ by grind) h0
 have e := div_eq (x := β) (show β - γ ≠ 0 by grind)
 refine ⟨h1, ?_, by grind⟩
 by_cases h : β / (β - γ) = 1
 ·rw [h] at e; grind
 ·grind
theorem P1 {β γ s : Rat} (hb : 0 ≤ β) (hg : γ < 0) (hs : s ≤ β / (β - γ)) : 0 ≤ β + s * (γ - β) := by
 have h := (ratio hb hg).2.2
 have := Rat.mul_nonneg (show 0 ≤ β / (β - γ) - s by grind) (show 0 ≤ β - γ by grind)
 grind
theorem MV {β γ s : Rat} (hb : 0 ≤ β) (hg : ¬ γ < 0) (hs : 0 ≤ s) (hs1 : s ≤ 1) : 0 ≤ β + s * (γ - β) := by
 have h1 := Rat.mul_nonneg hs (show 0 ≤ γ by grind)
 have h2 := Rat.mul_nonneg (show 0 ≤ 1 - s by grind) hb
 grind
def rat1 (β γ : Rat) : Rat := if γ < 0 then β / (β - γ) else 1
theorem I4 {β γ : Rat} (hb : 0 ≤ β) : 0 ≤ rat1 β γ ∧ rat1 β γ ≤ 1 := by
 unfold rat1; split
 ·rename_i h; have := ratio hb h; grind
 ·grind
theorem FQ {β γ s : Rat} (hb : 0 ≤ β) (hs : 0 ≤ s) (h1 : s ≤ 1) (h : s ≤ rat1 β γ) : 0 ≤ β + s * (γ - β) := by
 unfold rat1 at h; split at h
 ·rename_i hg; exact P1 hb hg h
 ·rename_i hg; exact MV hb hg hs h1
theorem FP {β γ : Rat} (hb : 0 ≤ β) (h : rat1 β γ < 1) : β + rat1 β γ * (γ - β) = 0 := by
 unfold rat1 at h ⊢; split at h
 ·rename_i hg; rw [if_pos hg]; exact (ratio hb hg).2.2
 ·grind
theorem FR {β γ : Rat} (hb : 0 ≤ β) (hg : γ < 0) : rat1 β γ < 1 := by unfold rat1; rw [if_pos hg]; exact (ratio hb hg).2.1
theorem T8 {β0 β1 β2 γ0 γ1 γ2 : Rat} (h0 : 0 ≤ β0) (h1 : 0 ≤ β1) (h2 : 0 ≤ β2) (hg : γ0 < 0 ∨ γ1 < 0 ∨ γ2 < 0) : ∃ s, 0 ≤ s ∧ s ≤ 1 ∧ 0 ≤ β0 + s * (γ0 - β0) ∧ 0 ≤ β1 + s * (γ1 - β1) ∧ 0 ≤ β2 + s * (γ2 - β2) ∧
    (β0 + s * (γ0 - β0) = 0 ∨ β1 + s * (γ1 - β1) = 0 ∨ β2 + s * (γ2 - β2) = 0) := by
  have b0 := I4 (γ := γ0) h0; have b1 := I4 (γ := γ1) h1; have b2 := I4 (γ := γ2) h2
  have hlt : rat1 β0 γ0 < 1 ∨ rat1 β1 γ1 < 1 ∨ rat1 β2 γ2 < 1 := by
    rcases hg with h | h | h
    · exact .inl (FR h0 h)
    · exact .inr (.inl (FR h1 h))
    · exact .inr (.inr (FR h2 h))
  have key : ∀ s, 0 ≤ s → s ≤ 1 → s ≤ rat1 β0 γ0 → s ≤ rat1 β1 γ1 → s ≤ rat1 β2 γ2 → 0 ≤ β0 + s * (γ0 - β0) ∧ 0 ≤ β1 + s * (γ1 - β1) ∧ 0 ≤ β2 + s * (γ2 - β2) :=
    fun s a b c d e => ⟨FQ h0 a b c, FQ h1 a b d, FQ h2 a b e⟩
  by_cases q1 : rat1 β0 γ0 ≤ rat1 β1 γ1 ∧ rat1 β0 γ0 ≤ rat1 β2 γ2
  · have k := key _ b0.1 b0.2 Rat.le_refl q1.1 q1.2
    exact ⟨rat1 β0 γ0, b0.1, b0.2, k.1, k.2.1, k.2.2, .inl (FP h0 (by grind))⟩
  · by_cases q2 : rat1 β1 γ1 ≤ rat1 β2 γ2
    · have k := key _ b1.1 b1.2 (by grind) Rat.le_refl q2
      exact ⟨rat1 β1 γ1, b1.1, b1.2, k.1, k.2.1, k.2.2, .inr (.inl (FP h1 (by grind)))⟩
    · have k := key _ b2.1 b2.2 (by grind) (by grind) Rat.le_refl
      exact ⟨rat1 β2 γ2, b2.1, b2.2, k.1, k.2.1, k.2.2, .inr (.inr (FP h2 (by grind)))⟩
theorem RL {a b c x : Rat} (h : a ≤ x ∨ b ≤ x ∨ c ≤ x) : minQ (minQ a b) c ≤ x := by rw [BK, BK]; grind
theorem EF (t : T3) (p : V3) {x y z : Rat} (h0 : 0 ≤ x) (h1 : 0 ≤ y) (h2 : 0 ≤ z) (hs : x + y + z = 1) (h : x = 0 ∨ y = 0 ∨ z = 0) :
    zQ t p ≤ d2 p (addV t.1 (addV (qh y (subV t.2.1 t.1)) (qh z (subV t.2.2 t.1)))) := by
  refine RL ?_
  rcases h with h | h | h
  · have e : y = 1 - z := by grind
    rw [e, ← Xj]
    exact .inr (.inl (I9 _ _ _ h2 (by grind)))
  · have e : z = 1 - x := by grind
    rw [e, h, ← Xk]
    exact .inr (.inr (I9 _ _ _ h0 (by grind)))
  · rw [h, ← Xi]
    exact .inl (I9 _ _ _ h1 (by grind))
theorem KB (t : T3) (p : V3) (hN : qy t = (0, 0, 0)) {u v : Rat} (hu : 0 ≤ u) (hv : 0 ≤ v) (h1 : u + v ≤ 1) :
    zQ t p ≤ d2 p (addV t.1 (addV (qh u (subV t.2.1 t.1)) (qh v (subV t.2.2 t.1)))) := by
  have hE := vi (subV t.2.1 t.1)
  have hl := lagr (subV t.2.1 t.1) (subV t.2.2 t.1)
  have key : ∀ x y z : Rat, 0 ≤ x → 0 ≤ y → 0 ≤ z → x + y + z = 1 → (x = 0 ∨ y = 0 ∨ z = 0) → addV t.1 (addV (qh y (subV t.2.1 t.1)) (qh z (subV t.2.2 t.1))) = addV t.1 (addV (qh u (subV t.2.1 t.1)) (qh v (subV t.2.2 t.1))) →
      zQ t p ≤ d2 p (addV t.1 (addV (qh u (subV t.2.1 t.1)) (qh v (subV t.2.2 t.1)))) := fun x y z a b c d e f => f ▸ EF t p a b c d e
  by_cases hz : dotQ (subV t.2.1 t.1) (subV t.2.1 t.1) = 0
  · have e := vG hz
    rw [e] at key ⊢
    exact key (1 - v) 0 v (by grind) Rat.le_refl hv (by grind) (.inr (.inl rfl)) (by simp only [addV, qh]; rw [vq]; grind)
  · have hN' : qb (subV t.2.1 t.1) (subV t.2.2 t.1) = (0, 0, 0) := hN
    have hpar : subV t.2.2 t.1 = qh (dotQ (subV t.2.1 t.1) (subV t.2.2 t.1) / dotQ (subV t.2.1 t.1) (subV t.2.1 t.1)) (subV t.2.1 t.1) := by
      generalize subV t.2.1 t.1 = e1 at *; generalize subV t.2.2 t.1 = e2 at *
      have e := div_eq (x := dotQ e1 e2) hz
      generalize dotQ e1 e2 / dotQ e1 e1 = c at *
      obtain ⟨a1, a2, a3⟩ := e1; obtain ⟨b1, b2, b3⟩ := e2
      simp only [qb, Prod.mk.injEq] at hN'
      simp only [dotQ] at e hz
      have h1 : (a1 * a1 + a2 * a2 + a3 * a3) * (b1 - c * a1) = 0 := by grind
      have h2 : (a1 * a1 + a2 * a2 + a3 * a3) * (b2 - c * a2) = 0 := by grind
      have h3 : (a1 * a1 + a2 * a2 + a3 * a3) * (b3 - c * a3) = 0 := by grind
      simp only [qh, Prod.mk.injEq]
      rcases Rat.mul_eq_zero.1 h1 with h | h <;> rcases Rat.mul_eq_zero.1 h2 with k | k <;> rcases Rat.mul_eq_zero.1 h3 with l | l <;> first | exact absurd h hz | exact absurd k hz | exact absurd l hz | exact ⟨by grind, by grind, by grind⟩
    generalize dotQ (subV t.2.1 t.1) (subV t.2.2 t.1) / dotQ (subV t.2.1 t.1) (subV t.2.1 t.1) = c at hpar
    rw [hpar] at key ⊢
    generalize subV t.2.1 t.1 = e1 at *
    have pt : ∀ y z : Rat, y + z * c = u + v * c → addV t.1 (addV (qh y e1) (qh z (qh c e1))) = addV t.1 (addV (qh u e1) (qh v (qh c e1))) := by
      intro y z h
      simp only [addV, qh]; rw [vq]; grind
    by_cases q1 : u + v * c < 0
    · have hc : c < 0 := by
        rcases Rat.le_total (a := 0) (b := c) with h | h
        · have := Rat.mul_nonneg hv h; grind
        · by_cases e : c = 0
          · subst e; grind
          · grind
      have n1 := zw (show 0 ≤ -(u + v * c) by grind) (show 0 < -c by grind)
      have e := div_eq (x := -(u + v * c)) (show -c ≠ 0 by grind)
      have hz1 : -(u + v * c) / -c ≤ 1 := by
        refine D2 ?_ (by grind)
        have := Rat.mul_nonneg (show 0 ≤ 1 - v by grind) (show 0 ≤ -c by grind); grind
      exact key (1 - -(u + v * c) / -c) 0 _ (by grind) Rat.le_refl n1 (by grind) (.inr (.inl rfl)) (pt _ _ (by grind))
    · by_cases q2 : u + v * c ≤ 1
      · exact key (1 - (u + v * c)) (u + v * c) 0 (by grind) (by grind) Rat.le_refl (by grind) (.inr (.inr rfl)) (pt _ _ (by grind))
      · have hc : 1 < c := by
          rcases Rat.le_total (a := c) (b := 1) with h | h
          · have := Rat.mul_nonneg hv (show 0 ≤ 1 - c by grind); grind
          · by_cases e : c = 1
            · subst e; grind
            · grind
        have n1 := zw (show 0 ≤ u + v * c - 1 by grind) (show 0 < c - 1 by grind)
        have e := div_eq (x := u + v * c - 1) (show c - 1 ≠ 0 by grind)
        have hz1 : (u + v * c - 1) / (c - 1) ≤ 1 := by
          refine D2 ?_ (by grind)
          have := Rat.mul_nonneg (show 0 ≤ 1 - v by grind) (show 0 ≤ c - 1 by grind); grind
        exact key 0 (1 - (u + v * c - 1) / (c - 1)) _ Rat.le_refl (by grind) n1 (by grind) (.inl rfl) (pt _ _ (by grind))
theorem QB (t : T3) (p : V3) {u v : Rat} (hu : 0 ≤ u) (hv : 0 ≤ v) (h1 : u + v ≤ 1) :
    j9 t p ≤ d2 p (addV t.1 (addV (qh u (subV t.2.1 t.1)) (qh v (subV t.2.2 t.1)))) := by
  unfold j9
  split
  · rename_i h; exact KB t p h hu hv h1
  · rename_i h
    have hK := lagr (subV t.2.1 t.1) (subV t.2.2 t.1)
    have hK0 : 0 < dotQ (qy t) (qy t) := by
      have a := vi (qy t); have b : dotQ (qy t) (qy t) ≠ 0 := fun e => h (vG e); grind
    have hE : 0 < dotQ (subV t.2.1 t.1) (subV t.2.1 t.1) := by
      have a := vi (subV t.2.1 t.1)
      have b : dotQ (subV t.2.1 t.1) (subV t.2.1 t.1) ≠ 0 := fun e => by
        have e := vG e
        apply h; unfold qy; rw [e]; simp only [qb]; rw [vq]; grind
      grind
    split
    · rename_i hf
      unfold qy at hf hK0
      rw [M6, M7, M8, tri1, tri2, hK] at hf
      rw [hK] at hK0
      have mv := fun x y s hs hs1 => OT (c := dotQ (subV p t.1) (subV p t.1)) u v x y s hs hs1 hE hK0 rfl (a := dotQ (subV p t.1) (subV t.2.1 t.1)) (b := dotQ (subV p t.1) (subV t.2.2 t.1))
      have le := fun x y z h0 h1 h2 => EF t p (x := x) (y := y) (z := z) h0 h1 h2
      simp only [KQ] at le ⊢
      generalize dotQ (subV p t.1) (subV t.2.1 t.1) = a at *; generalize dotQ (subV p t.1) (subV t.2.2 t.1) = b at *; generalize dotQ (subV p t.1) (subV p t.1) = c at *
      generalize dotQ (subV t.2.1 t.1) (subV t.2.1 t.1) = E at *; generalize dotQ (subV t.2.1 t.1) (subV t.2.2 t.1) = F at *; generalize dotQ (subV t.2.2 t.1) (subV t.2.2 t.1) = G at *
      have eA := div_eq (x := G * a - F * b) (show E * G - F * F ≠ 0 by grind)
      have eB := div_eq (x := E * b - F * a) (show E * G - F * F ≠ 0 by grind)
      generalize (G * a - F * b) / (E * G - F * F) = A at *; generalize (E * b - F * a) / (E * G - F * F) = B at *
      generalize hKK : E * G - F * F = K at *
      have neg : ∀ x : Rat, K * x < 0 → x < 0 := fun x hx => by
        rcases Rat.le_total (a := 0) (b := x) with h | h
        · have := Rat.mul_nonneg (Rat.le_of_lt hK0) h; grind
        · by_cases e : x = 0
          · subst e; grind
          · grind
      obtain ⟨s, s0, s1, p0, p1, p2, hz⟩ := T8 (γ0 := 1 - A - B) (γ1 := A) (γ2 := B) (show 0 ≤ 1 - u - v by grind) hu hv (by
        rcases hf with h | h | h
        · exact .inr (.inr (neg _ (by grind)))
        · exact .inl (neg _ (by grind))
        · exact .inr (.inl (neg _ (by grind))))
      exact Rat.le_trans (le _ _ _ p0 p1 p2 (by grind) hz) (mv _ _ s s0 s1 (by grind) (by grind))
    · have hd : dotQ (qy t) p - dotQ (qy t) t.1 = dotQ (qb (subV t.2.1 t.1) (subV t.2.2 t.1)) (subV p t.1) := by rw [zK]; rfl
      rw [KQ, hd, gramd]
      unfold qy at hK0 ⊢
      rw [hK] at hK0 ⊢
      exact OU u v hE hK0 rfl rfl
theorem QA (t : T3) {u v : Rat} (hu : 0 ≤ u) (hv : 0 ≤ v) (h1 : u + v ≤ 1) : j9 t (addV t.1 (addV (qh u (subV t.2.1 t.1)) (qh v (subV t.2.2 t.1)))) = 0 := by
 have h := QB t (addV t.1 (addV (qh u (subV t.2.1 t.1)) (qh v (subV t.2.2 t.1)))) hu hv h1
 have h2 := QD t (addV t.1 (addV (qh u (subV t.2.1 t.1)) (qh v (subV t.2.2 t.1))))
 have h3 : ∀ x : V3, d2 x x = 0 := fun x => by simp only [d2, dotQ, subV]; grind
 rw [h3] at h
 grind
end
theorem L1 {x : Rat} : sgnQ x = if x < 0 then -1 else if x = 0 then 0 else 1 := by
 have e0 : x < 0 ↔ x.num < 0 := by
  have := Rat.num_nonneg (q := x)
  constructor
  ·intro h; have : ¬ 0 ≤ x.num := fun e => by have := this.1 e; grind
   omega
  ·intro h; have : ¬ 0 ≤ x := fun e => by have := this.2 e; omega
   grind
 have e1 : x = 0 ↔ x.num = 0 := Rat.num_eq_zero.symm
 rcases zd x with ⟨h, k⟩ | ⟨h, k⟩ | ⟨h, k⟩ <;> rw [k]
 ·rw [if_pos (e0.2 h)]
 ·rw [if_neg (fun q => by have := e0.1 q; omega), if_pos (e1.2 h)]
 ·rw [if_neg (fun q => by have := e0.1 q; omega), if_neg (fun q => by have := e1.1 q; omega)]
theorem SS (x y : Rat) : sgnQ (x - y) = cmpQ x y := by
 rw [L1]; unfold cmpQ
 by_cases h : x < y
 ·rw [if_pos h, if_pos (by grind)]
 ·rw [if_neg h, if_neg (by grind)]
  by_cases h2 : x = y
  ·rw [if_pos h2, if_pos (by grind)]
  ·rw [if_neg h2, if_neg (by grind)]
theorem Qt {x y : Rat} : cmpQ x y ≤ 0 ↔ x ≤ y := by unfold cmpQ; (repeat' split) <;> grind
theorem MQ {y : Rat} : quoC y = 0 ↔ y ≠ 0 := by
 have e1 : y = 0 ↔ y.num = 0 := Rat.num_eq_zero.symm
 unfold quoC; split
 ·rename_i h; exact ⟨fun e => absurd e (by decide), fun e => absurd (e1.2 (by omega)) e⟩
 ·rename_i h; exact ⟨fun _ e => h (by have := e1.1 e; omega), fun _ => rfl⟩
theorem vd {b : Bd} {x : V3} {m : Nat} (h : Bnd tV3 b x) (hm : b.mx ≤ m) : Bnd tV3 (bV3 m) x := ⟨j8 h.v3.1 hm, j8 h.v3.2.1 hm, j8 h.v3.2.2 hm⟩
theorem sub_m {p q : V3} {m k : Nat} (hp : Bnd tV3 (bV3 m) p) (hq : Bnd tV3 (bV3 k) q) : Bnd tV3 (bV3 (m + k + 1)) (subV p q) := by
 have := CO hp hq; simpa [Bd.mx] using this
theorem add_m {p q : V3} {m k : Nat} (hp : Bnd tV3 (bV3 m) p) (hq : Bnd tV3 (bV3 k) q) : Bnd tV3 (bV3 (m + k + 1)) (addV p q) := by
 have := C5 hp hq; simpa [Bd.mx] using this
theorem FY {r : Rat} {q : V3} {m k : Nat} (hp : Bnd .rat (.n m) r) (hq : Bnd tV3 (bV3 k) q) : Bnd tV3 (bV3 (m + k)) (qh r q) := by
 have := BQ hp hq; simpa [Bd.mx] using this
theorem wB {p q : V3} {m k : Nat} (hp : Bnd tV3 (bV3 m) p) (hq : Bnd tV3 (bV3 k) q) : Bnd .rat (.n (3 * (m + k) + 2)) (dotQ p q) := by
 have := Hr hp hq; simpa [Bd.mx] using this
theorem Jf {p q : V3} {m k : Nat} (hp : Bnd tV3 (bV3 m) p) (hq : Bnd tV3 (bV3 k) q) : Bnd tV3 (bV3 (2 * (m + k) + 1)) (qb p q) := by
 have := DN hp hq; simpa [Bd.mx] using this
theorem KR {x y : Rat} {m k : Nat} (hx : Bnd .rat (.n m) x) (hy : Bnd .rat (.n k) y) : Bnd .rat (.n (m + k)) (x / y) := FN hx hy
theorem v8 {m k : Nat} {x : V3} (h : Bnd tV3 (bV3 m) x) (hm : m ≤ k) : Bnd tV3 (bV3 k) x := ⟨j8 h.1 hm, j8 h.2.1 hm, j8 h.2.2 hm⟩
theorem d2_m {p q : V3} {m k : Nat} (hp : Bnd tV3 (bV3 m) p) (hq : Bnd tV3 (bV3 k) q) : Bnd .rat (.n (6 * (m + k) + 8)) (d2 p q) :=
 j8 (wB (sub_m hp hq) (sub_m hp hq)) (by omega)
theorem GX {a b p : V3} {m : Nat} (ha : Bnd tV3 (bV3 m) a) (hb : Bnd tV3 (bV3 m) b) (hp : Bnd tV3 (bV3 m) p) : Bnd .rat (.n (168 * m + 116)) (segQ a b p) := by
 unfold segQ
 split
 ·exact j8 (d2_m hp ha) (by omega)
 ·split
  ·exact j8 (d2_m hp hb) (by omega)
  ·exact j8 (d2_m hp (add_m ha (FY (KR (wB (sub_m hp ha) (sub_m hb ha)) (wB (sub_m hb ha) (sub_m hb ha))) (sub_m hb ha)))) (by omega)
theorem XM {a b p : V3} {c d e : Bd} (ha : Bnd tV3 c a) (hb : Bnd tV3 d b) (hp : Bnd tV3 e p) : Bnd .rat (.n (168 * max c.mx (max d.mx e.mx) + 116)) (segQ a b p) :=
 GX (vd ha (by omega)) (vd hb (by omega)) (vd hp (by omega))
abbrev tT3 : Ty := .pr tV3 (.pr tV3 tV3)
abbrev bT3 (m : Nat) : Bd := .p (bV3 m) (.p (bV3 m) (bV3 m))
abbrev tPl : Ty := .pr tV3 .rat
theorem Bnd.t3 {b : Bd} {t : T3} (h : Bnd tT3 b t) : Bnd tV3 (bV3 b.mx) t.1 ∧ Bnd tV3 (bV3 b.mx) t.2.1 ∧ Bnd tV3 (bV3 b.mx) t.2.2 := by
 have h1 := h.pr; have h2 := h1.2.pr
 have := b.l_mx; have := b.r_mx; have := b.r.l_mx; have := b.r.r_mx
 exact ⟨vd h1.1 (by omega), vd h2.1 (by omega), vd h2.2 (by omega)⟩
theorem HQ {t : T3} {m : Nat} (h : Bnd tV3 (bV3 m) t.1 ∧ Bnd tV3 (bV3 m) t.2.1 ∧ Bnd tV3 (bV3 m) t.2.2) : Bnd tV3 (bV3 (8 * m + 5)) (qy t) :=
 v8 (Jf (sub_m h.2.1 h.1) (sub_m h.2.2 h.1)) (by omega)
def qd (t : T3) : V3 × Rat := (qy t, dotQ (qy t) t.1)
theorem Dj {t : T3} {m : Nat} (h : Bnd tV3 (bV3 m) t.1 ∧ Bnd tV3 (bV3 m) t.2.1 ∧ Bnd tV3 (bV3 m) t.2.2) : Bnd tPl (.p (bV3 (27 * m + 17)) (.n (27 * m + 17))) (qd t) :=
 ⟨v8 (HQ h) (by omega), j8 (wB (HQ h) h.1) (by omega)⟩
theorem Jt {t : T3} {p : V3} {m : Nat} (h : Bnd tV3 (bV3 m) t.1 ∧ Bnd tV3 (bV3 m) t.2.1 ∧ Bnd tV3 (bV3 m) t.2.2) (hp : Bnd tV3 (bV3 m) p) : Bnd .rat (.n (168 * m + 116)) (zQ t p) :=
 j8 (DT (DT (GX h.1 h.2.1 hp) (GX h.2.1 h.2.2 hp)) (GX h.2.2 h.1 hp)) (by simp [Bd.nb])
theorem U8 {t : T3} {p : V3} {b c : Bd} (h : Bnd tT3 b t) (hp : Bnd tV3 c p) : Bnd .rat (.n (168 * max b.mx c.mx + 116)) (j9 t p) := by
 have h1 := h.t3
 have h2 : Bnd tV3 (bV3 (max b.mx c.mx)) t.1 ∧ Bnd tV3 (bV3 (max b.mx c.mx)) t.2.1 ∧ Bnd tV3 (bV3 (max b.mx c.mx)) t.2.2 := ⟨v8 h1.1 (by omega), v8 h1.2.1 (by omega), v8 h1.2.2 (by omega)⟩
 have hp2 : Bnd tV3 (bV3 (max b.mx c.mx)) p := vd hp (by omega)
 generalize max b.mx c.mx = m at *
 unfold j9
 split
 ·exact Jt h2 hp2
 ·split
  ·exact Jt h2 hp2
  ·have hN := HQ h2
   have hd := wG (wB hN hp2) (wB hN h2.1)
   exact j8 (KR (vr hd hd) (wB hN hN)) (by omega)
def upP (q : V3 × Rat) (a b : V3) : V3 × Rat := (qb (subV b a) q.1, dotQ (qb (subV b a) q.1) a)
theorem up_m {q : V3 × Rat} {a b : V3} {m k : Nat} (hq : Bnd tV3 (bV3 k) q.1) (ha : Bnd tV3 (bV3 m) a) (hb : Bnd tV3 (bV3 m) b) : Bnd tPl (.p (bV3 (15 * m + 6 * k + 11)) (.n (15 * m + 6 * k + 11))) (upP q a b) := by
 have h := Jf (sub_m hb ha) hq
 exact ⟨v8 h (by omega), j8 (wB h ha) (by omega)⟩
theorem up_b {q : V3 × Rat} {a b : V3} {c d e : Bd} (hq : Bnd tPl c q) (ha : Bnd tV3 d a) (hb : Bnd tV3 e b) : Bnd tPl (.p (bV3 (15 * max d.mx e.mx + 6 * c.mx + 11)) (.n (15 * max d.mx e.mx + 6 * c.mx + 11))) (upP q a b) :=
 up_m (vd hq.pr.1 c.l_mx) (vd ha (by omega)) (vd hb (by omega))
theorem Pl {a b c : V3} (h : qb (subV b a) (subV c a) = (0, 0, 0)) : ((0, 0, 0), 0) = qd (a, b, c) := by
 have e : qy (a, b, c) = (0, 0, 0) := h
 unfold qd; rw [e]; simp only [dotQ]; congr 1; grind
def thrC (a b c : V3) : Int := if qy (a, b, c) = (0, 0, 0) then 9 else 0
theorem Wf (a b c : V3) : (thrC a b c).natAbs ≤ 9 := by unfold thrC; split <;> decide
theorem LP {t : T3} {p : V3} (h : qy t = (0, 0, 0)) : zQ t p = j9 t p := by unfold j9; rw [if_pos h]
theorem Bt {t : T3} {p : V3} (h : ¬ qy t = (0, 0, 0)) (k : 0 < cmpQ (dotQ (upP (qd t) t.1 t.2.1).1 p) (upP (qd t) t.1 t.2.1).2 ∨ 0 < cmpQ (dotQ (upP (qd t) t.2.1 t.2.2).1 p) (upP (qd t) t.2.1 t.2.2).2 ∨ 0 < cmpQ (dotQ (upP (qd t) t.2.2 t.1).1 p) (upP (qd t) t.2.2 t.1).2) : zQ t p = j9 t p := by
 rw [AW, AW, AW] at k
 have k : jS (qy t) t.1 t.2.1 p ∨ jS (qy t) t.2.1 t.2.2 p ∨ jS (qy t) t.2.2 t.1 p := k
 unfold j9; rw [if_neg h, if_pos k]
theorem LQ {t : T3} {p : V3} (h : ¬ qy t = (0, 0, 0)) (k0 : ¬ 0 < cmpQ (dotQ (upP (qd t) t.1 t.2.1).1 p) (upP (qd t) t.1 t.2.1).2) (k1 : ¬ 0 < cmpQ (dotQ (upP (qd t) t.2.1 t.2.2).1 p) (upP (qd t) t.2.1 t.2.2).2) (k2 : ¬ 0 < cmpQ (dotQ (upP (qd t) t.2.2 t.1).1 p) (upP (qd t) t.2.2 t.1).2) :
    (dotQ (qd t).1 p - (qd t).2) * (dotQ (qd t).1 p - (qd t).2) / dotQ (qd t).1 (qd t).1 = j9 t p := by
  rw [AW] at k0 k1 k2
  unfold j9; rw [if_neg h, if_neg (by rintro (e | e | e) <;> contradiction)]; rfl
def smlV (x : Rat) : Int := if x.den = 1 ∧ (limbs x.num.natAbs).length ≤ 1 then x.num else 0
def smlB (x : Rat) : Bool := decide (x.den = 1 ∧ x.num.natAbs < 268435456)
theorem LL (x : Rat) : (denL x.den).length = 0 ↔ x.den = 1 := by
 unfold denL; split
 ·rename_i h; simp [h]
 ·rename_i h
  refine ⟨fun e => ?_, fun e => absurd e h⟩
  have := nl0.1 e; exact absurd this x.den_nz
theorem BT {x : Rat} (h : 0 < (denL x.den).length ∨ 1 < (limbs x.num.natAbs).length) : 0 = smlV x ∧ false = smlB x := by
 have e := LL x
 have hc : ¬ (x.den = 1 ∧ (limbs x.num.natAbs).length ≤ 1) := by
  rintro ⟨a, b⟩; have := e.2 a; omega
 refine ⟨by unfold smlV; rw [if_neg hc], ?_⟩
 symm; apply decide_eq_false
 rintro ⟨a, b⟩
 refine hc ⟨a, Au (k := 1) (by omega)⟩
theorem G0 {x : Rat} (h0 : ¬ 0 < (denL x.den).length) (h1 : ¬ 1 < (limbs x.num.natAbs).length) : smlV x = x.num ∧ x.den = 1 := by
 have a := (LL x).1 (by omega)
 exact ⟨by unfold smlV; rw [if_pos ⟨a, by omega⟩], a⟩
theorem JW {x : Rat} (h0 : ¬ 0 < (denL x.den).length) (h1 : ¬ 1 < (limbs x.num.natAbs).length) (h : (limbs x.num.natAbs).length = 0) : 0 = smlV x ∧ true = smlB x := by
 obtain ⟨a, b⟩ := G0 h0 h1
 have c := nl0.1 h
 refine ⟨by rw [a]; omega, ?_⟩
 symm; apply decide_eq_true; exact ⟨b, by omega⟩
theorem HG {n : Nat} (h1 : ¬ 1 < (limbs n).length) (h : ¬ (limbs n).length = 0) : (limbs n).getD 0 0 = n := by
 have e := vk (x := n) (by omega)
 rw [show (limbs n).length = 1 by omega] at e
 simp [valL] at e; simpa using e.symm
theorem JX {x : Rat} (h0 : ¬ 0 < (denL x.den).length) (h1 : ¬ 1 < (limbs x.num.natAbs).length) (h : ¬ (limbs x.num.natAbs).length = 0) (hn : x.num < 0) :
    -(((limbs x.num.natAbs).getD 0 0 : Nat) : Int) = smlV x ∧ decide ((limbs x.num.natAbs).getD 0 0 < 268435456) = smlB x := by
  obtain ⟨a, b⟩ := G0 h0 h1
  rw [HG h1 h, a]
  exact ⟨by omega, by unfold smlB; simp [b]⟩
theorem JY {x : Rat} (h0 : ¬ 0 < (denL x.den).length) (h1 : ¬ 1 < (limbs x.num.natAbs).length) (h : ¬ (limbs x.num.natAbs).length = 0) (hn : ¬ x.num < 0) :
    (((limbs x.num.natAbs).getD 0 0 : Nat) : Int) = smlV x ∧ decide ((limbs x.num.natAbs).getD 0 0 < 268435456) = smlB x := by
  obtain ⟨a, b⟩ := G0 h0 h1
  rw [HG h1 h, a]
  exact ⟨by omega, by unfold smlB; simp [b]⟩
theorem Pg (x : Rat) : (smlV x).natAbs ≤ 4294967295 := by
 unfold smlV; split
 ·rename_i h
  by_cases e : (limbs x.num.natAbs).length = 0
  ·have := nl0.1 e; omega
  ·have e2 := HG (n := x.num.natAbs) (by omega) e
   have := q7 x.num.natAbs 0
   omega
 ·decide
theorem jC {x : Rat} (h : smlB x = true) : x = ((smlV x : Int) : Rat) ∧ (smlV x).natAbs < 268435456 := by
 obtain ⟨a, b⟩ := of_decide_eq_true h
 have c : smlV x = x.num := by unfold smlV; rw [if_pos ⟨a, Au (k := 1) (by omega)⟩]
 rw [c]
 exact ⟨Rat.ext rfl a, b⟩
theorem Fp {a b : Int} (ha : a.natAbs < 268435456) (hb : b.natAbs < 268435456) : qx .mul .i64 a b (a * b) ∧ (a * b).natAbs ≤ 72057594037927936 := by
 have h : (a * b).natAbs ≤ 268435456 * 268435456 := by rw [Int.natAbs_mul]; exact Nat.mul_le_mul (by omega) (by omega)
 exact ⟨zH rfl (Nat.le_trans h (by decide)), by omega⟩
def sgnZ (z : Int) : Int := if 0 < z then 1 else if z < 0 then -1 else 0
theorem Wb (z : Int) : (sgnZ z).natAbs ≤ 1 := by unfold sgnZ; (repeat' split) <;> decide
theorem Pc (s d : Int) : sgnZ (s - d) = cmpQ (s : Rat) (d : Rat) := by
 unfold sgnZ cmpQ
 have h1 : ((s : Rat) < (d : Rat)) ↔ s < d := Rat.intCast_lt_intCast
 have h2 : ((s : Rat) = (d : Rat)) ↔ s = d := by simp
 by_cases a : s < d
 ·rw [if_neg (by omega), if_pos (by omega), if_pos (h1.2 a)]
 ·rw [if_neg (fun e => a (h1.1 e))]
  by_cases b : s = d
  ·rw [if_neg (by omega), if_neg (by omega), if_pos (h2.2 b)]
  ·rw [if_pos (by omega), if_neg (fun e => b (h2.1 e))]
theorem L2 {q : V3 × Rat} {p : V3} (a0 : smlB q.1.1 = true) (b0 : smlB p.1 = true) (a1 : smlB q.1.2.1 = true) (b1 : smlB p.2.1 = true) (a2 : smlB q.1.2.2 = true) (b2 : smlB p.2.2 = true) (d : smlB q.2 = true) :
    sgnZ (0 + smlV q.1.1 * smlV p.1 + smlV q.1.2.1 * smlV p.2.1 + smlV q.1.2.2 * smlV p.2.2 - smlV q.2) = cmpQ (dotQ q.1 p) q.2 := by
  rw [Pc, ← (jC d).1]
  congr 1
  unfold dotQ
  rw [Int.zero_add, Rat.intCast_add, Rat.intCast_add, Rat.intCast_mul, Rat.intCast_mul, Rat.intCast_mul, ← (jC a0).1, ← (jC b0).1, ← (jC a1).1, ← (jC b1).1, ← (jC a2).1, ← (jC b2).1]
abbrev M1 : FI := ⟨204, [(.pr .rat (.pr .rat .rat)), (.pr .rat (.pr .rat .rat)), (.fn 71)], [(.p (.n 4294967296) (.p (.n 4294967296) (.n 4294967296))), (.p (.n 4294967296) (.p (.n 4294967296) (.n 4294967296))), .u], fun _ => [], fun b z => (fun (p : Rat × Rat × Rat) (q : Rat × Rat × Rat) (u : Unit) => .c (.agg [.dt tV3 (bV3 ((b0 b).mx + (b1 b).mx + 1)) (subV p q)])) z.1 z.2.1 z.2.2⟩
theorem M2 : M1.OK Tryz.prog := mkF hmix 24 Tryz.func204 rfl rfl (by decide) [(71, .c F2)] (fun _ => rfl) (fun _ => rfl) (fun _ _ => rfl) (fun (p : Rat × Rat × Rat) (q : Rat × Rat × Rat) (u : Unit) b hx hp => zq (CO (Bnds.h3 hx).1 (Bnds.h3 hx).2.1)) (fun (p : Rat × Rat × Rat) (q : Rat × Rat × Rat) (u : Unit) hx hp => by
 exact ⟨.nil, kcast (by kernel_rfl) ((rfl : (p.1 - q.1, p.2.1 - q.2.1, p.2.2 - q.2.2) = subV p q))⟩)
abbrev M0 : Ctr Tryz.prog := FI.c M2
abbrev Tp : FI := ⟨128, [(.pr .rat (.pr .rat .rat)), (.pr .rat (.pr .rat .rat))], [(.p (.n 4294967296) (.p (.n 4294967296) (.n 4294967296))), (.p (.n 4294967296) (.p (.n 4294967296) (.n 4294967296)))], fun _ => [], fun b z => (fun (p : Rat × Rat × Rat) (q : Rat × Rat × Rat) => .c (.agg [.dt tV3 (bV3 ((b0 b).mx + (b1 b).mx + 1)) (subV p q)])) z.1 z.2⟩
theorem Tq : Tp.OK Tryz.prog := mkF hmix 8 Tryz.func128 rfl rfl (by decide) [] (fun _ => rfl) (fun _ => rfl) (fun _ _ => rfl) (fun (p : Rat × Rat × Rat) (q : Rat × Rat × Rat) b hx hp => zq (CO (Bnds.h2 hx).1 (Bnds.h2 hx).2)) (fun (p : Rat × Rat × Rat) (q : Rat × Rat × Rat) hx hp => by
 exact ⟨.h 1 2 (.c M0) (.nil), kcast (by kernel_rfl) ((Eq.refl (subV p q)))⟩)
abbrev wV : Ctr Tryz.prog := FI.c Tq
abbrev Ts : FI := ⟨25, [(.pr .rat (.pr .rat .rat)), (.pr .rat (.pr .rat .rat))], [(.p (.n 4294967296) (.p (.n 4294967296) (.n 4294967296))), (.p (.n 4294967296) (.p (.n 4294967296) (.n 4294967296)))], fun _ => [], fun b z => (fun (p : Rat × Rat × Rat) (q : Rat × Rat × Rat) => .c (.agg [.dt tV3 (bV3 ((b0 b).mx + (b1 b).mx + 1)) (subV p q)])) z.1 z.2⟩
theorem Tt : Ts.OK Tryz.prog := mkF hmix 20 Tryz.func25 rfl rfl (by decide) [(28, .c CX)] (fun _ => rfl) (fun _ => rfl) (fun _ _ => rfl) (fun (p : Rat × Rat × Rat) (q : Rat × Rat × Rat) b hx hp => zq (CO (Bnds.h2 hx).1 (Bnds.h2 hx).2)) (fun (p : Rat × Rat × Rat) (q : Rat × Rat × Rat) hx hp => by
 exact ⟨.nil, kcast (by kernel_rfl) ((rfl : (p.1 - q.1, p.2.1 - q.2.1, p.2.2 - q.2.2) = subV p q))⟩)
abbrev wW : Ctr Tryz.prog := FI.c Tt
abbrev Pw : FI := ⟨69, [(.pr (.pr .rat (.pr .rat .rat)) .rat), (.pr .rat (.pr .rat .rat))], [(.p (.p (.n 16777216) (.p (.n 16777216) (.n 16777216))) (.n 16777216)), (.p (.n 67108864) (.p (.n 67108864) (.n 67108864)))], fun _ => [], fun b z => (fun (q : (Rat × Rat × Rat) × Rat) (p : Rat × Rat × Rat) => .c (.one (.dt (.int .i64) (.n 1) (cmpQ (dotQ q.1 p) q.2)))) z.1 z.2⟩
theorem Px : Pw.OK Tryz.prog := mkF hmix 12 Tryz.func69 rfl rfl (by decide) [(72, .c wU), (133, .c CC)] (fun _ => rfl) (fun _ => rfl) (fun _ _ => rfl) (fun (q : (Rat × Rat × Rat) × Rat) (p : Rat × Rat × Rat) b hx hp => qe (zZ _ _) rfl) (fun (q : (Rat × Rat × Rat) × Rat) (p : Rat × Rat × Rat) hx hp => by
 exact ⟨.nil, kcast (by kernel_rfl) ((Eq.refl (cmpQ (dotQ q.1 p) q.2)))⟩)
abbrev Ir : Ctr Tryz.prog := FI.c Px
abbrev Pz : FI := ⟨85, [(.pr (.pr .rat (.pr .rat .rat)) .rat), (.pr .rat (.pr .rat .rat))], [(.p (.p (.n 16777216) (.p (.n 16777216) (.n 16777216))) (.n 16777216)), (.p (.n 67108864) (.p (.n 67108864) (.n 67108864)))], fun _ => [], fun b z => (fun (q : (Rat × Rat × Rat) × Rat) (p : Rat × Rat × Rat) => .c (.one (.dt (.int .i64) (.n 1) (cmpQ (dotQ q.1 p) q.2)))) z.1 z.2⟩
theorem PA : Pz.OK Tryz.prog := mkF hmix 13 Tryz.func85 rfl rfl (by decide) [(16, .c Dw), (28, .c CX), (33, .c Bg)] (fun _ => rfl) (fun _ => rfl) (fun _ _ => rfl) (fun (q : (Rat × Rat × Rat) × Rat) (p : Rat × Rat × Rat) b hx hp => qe (zZ _ _) rfl) (fun (q : (Rat × Rat × Rat) × Rat) (p : Rat × Rat × Rat) hx hp => by
 exact ⟨.nil, kcast (by kernel_rfl) ((SS _ _ : sgnQ ((dotQ q.1 p) - q.2) = cmpQ (dotQ q.1 p) q.2))⟩)
abbrev Py : Ctr Tryz.prog := FI.c PA
abbrev Wp : FI := ⟨137, [(.pr .rat (.pr .rat .rat)), (.pr .rat (.pr .rat .rat)), (.pr .rat (.pr .rat .rat))], [(.p (.n 1048576) (.p (.n 1048576) (.n 1048576))), (.p (.n 1048576) (.p (.n 1048576) (.n 1048576))), (.p (.n 1048576) (.p (.n 1048576) (.n 1048576)))], fun _ => [], fun b z => (fun (a : Rat × Rat × Rat) (b_ : Rat × Rat × Rat) (c : Rat × Rat × Rat) => .tup [.agg [.dt tPl (.p (bV3 (27 * (max (b0 b).mx (max (b1 b).mx (b2 b).mx)) + 17)) (.n (27 * (max (b0 b).mx (max (b1 b).mx (b2 b).mx)) + 17))) (qd (a, b_, c))], .one (.dt (.int .i64) (.n 9) (thrC a b_ c))]) z.1 z.2.1 z.2.2⟩
theorem Wq : Wp.OK Tryz.prog := mkF hmix 24 Tryz.func137 rfl rfl (by decide) [(72, .c wU), (128, .c wV), (135, .c E6), (136, .c AE)] (fun _ => rfl) (fun _ => rfl) (fun _ _ => rfl) (fun (a : Rat × Rat × Rat) (b_ : Rat × Rat × Rat) (c : Rat × Rat × Rat) b hx hp => qF (jh (Dj ⟨vd (Bnds.h3 hx).1 (by omega), vd (Bnds.h3 hx).2.1 (by omega), vd (Bnds.h3 hx).2.2 (by omega)⟩)) (qF (qe (Wf _ _ _) rfl) jz)) (fun (a : Rat × Rat × Rat) (b_ : Rat × Rat × Rat) (c : Rat × Rat × Rat) hx hp => by
 exact ⟨.nil, kcast (by kernel_rfl) (And.intro (fun (h1 : decide ((qb (subV b_ a) (subV c a)) = (0, 0, 0)) = true) => And.intro (Pl (of_decide_eq_true h1) : ((0, 0, 0), 0) = qd (a, b_, c)) ((if_pos (of_decide_eq_true h1)).symm : 9 = thrC a b_ c)) (fun (h2 : ¬ (decide ((qb (subV b_ a) (subV c a)) = (0, 0, 0)) = true)) => And.intro (rfl : (qb (subV b_ a) (subV c a), dotQ (qb (subV b_ a) (subV c a)) a) = qd (a, b_, c)) ((if_neg (fun e => h2 (decide_eq_true e))).symm : 0 = thrC a b_ c)))⟩)
abbrev Wo : Ctr Tryz.prog := FI.c Wq
abbrev Tn : FI := ⟨65, [(.pr .rat (.pr .rat .rat)), (.pr .rat (.pr .rat .rat)), (.pr .rat (.pr .rat .rat))], [(.p (.n 1048576) (.p (.n 1048576) (.n 1048576))), (.p (.n 1048576) (.p (.n 1048576) (.n 1048576))), (.p (.n 1048576) (.p (.n 1048576) (.n 1048576)))], fun _ => [], fun b z => (fun (a : Rat × Rat × Rat) (b_ : Rat × Rat × Rat) (p : Rat × Rat × Rat) => .c (.agg [.dt .rat (.n (168 * max (b0 b).mx (max (b1 b).mx (b2 b).mx) + 116)) (segQ a b_ p)])) z.1 z.2.1 z.2.2⟩
theorem To : Tn.OK Tryz.prog := mkF hmix 42 Tryz.func65 rfl rfl (by decide) [(66, .c N4), (72, .c wU), (73, .c I7), (128, .c wV), (129, .c K2), (130, .c CT), (131, .c VM), (132, .c N3)] (fun _ => rfl) (fun _ => rfl) (fun _ _ => rfl) (fun (a : Rat × Rat × Rat) (b_ : Rat × Rat × Rat) (p : Rat × Rat × Rat) b hx hp => jh (XM (Bnds.h3 hx).1 (Bnds.h3 hx).2.1 (Bnds.h3 hx).2.2)) (fun (a : Rat × Rat × Rat) (b_ : Rat × Rat × Rat) (p : Rat × Rat × Rat) hx hp => by
 exact ⟨.nil, kcast (by kernel_rfl) (And.intro (fun (h1 : quoC (dotQ (subV b_ a) (subV b_ a)) = 0) => ((Pa a b_ p (MQ.1 h1)).symm : dotQ (subV p (addV a (qh (maxQ 0 (minQ ((1 : Int) : Rat) ((dotQ (subV p a) (subV b_ a)) / (dotQ (subV b_ a) (subV b_ a))))) (subV b_ a)))) (subV p (addV a (qh (maxQ 0 (minQ ((1 : Int) : Rat) ((dotQ (subV p a) (subV b_ a)) / (dotQ (subV b_ a) (subV b_ a))))) (subV b_ a)))) = segQ a b_ p)) (fun (h2 : ¬ (quoC (dotQ (subV b_ a) (subV b_ a)) = 0)) => ((P9 a b_ p (Decidable.of_not_not (fun e => h2 (MQ.2 e)))).symm : dotQ (subV p a) (subV p a) = segQ a b_ p)))⟩)
abbrev Tm : Ctr Tryz.prog := FI.c To
abbrev Lf : FI := ⟨70, [(.pr (.pr .rat (.pr .rat .rat)) .rat), (.pr .rat (.pr .rat .rat)), (.pr .rat (.pr .rat .rat))], [(.p (.p (.n 16777216) (.p (.n 16777216) (.n 16777216))) (.n 16777216)), (.p (.n 1048576) (.p (.n 1048576) (.n 1048576))), (.p (.n 1048576) (.p (.n 1048576) (.n 1048576)))], fun _ => [], fun b z => (fun (q : (Rat × Rat × Rat) × Rat) (a : Rat × Rat × Rat) (b_ : Rat × Rat × Rat) => .c (.agg [.dt tPl (.p (bV3 (15 * max (b1 b).mx (b2 b).mx + 6 * (b0 b).mx + 11)) (.n (15 * max (b1 b).mx (b2 b).mx + 6 * (b0 b).mx + 11))) (upP q a b_)])) z.1 z.2.1 z.2.2⟩
theorem Lg : Lf.OK Tryz.prog := mkF hmix 19 Tryz.func70 rfl rfl (by decide) [(72, .c wU), (128, .c wV), (136, .c AE)] (fun _ => rfl) (fun _ => rfl) (fun _ _ => rfl) (fun (q : (Rat × Rat × Rat) × Rat) (a : Rat × Rat × Rat) (b_ : Rat × Rat × Rat) b hx hp => jh (up_b (Bnds.h3 hx).1 (Bnds.h3 hx).2.1 (Bnds.h3 hx).2.2)) (fun (q : (Rat × Rat × Rat) × Rat) (a : Rat × Rat × Rat) (b_ : Rat × Rat × Rat) hx hp => by
 exact ⟨.nil, kcast (by kernel_rfl) ((rfl : (qb (subV b_ a) q.1, dotQ (qb (subV b_ a) q.1) a) = upP q a b_))⟩)
abbrev Fc : Ctr Tryz.prog := FI.c Lg
abbrev Li : FI := ⟨62, [(.pr (.pr .rat (.pr .rat .rat)) .rat), (.pr .rat (.pr .rat .rat)), (.pr .rat (.pr .rat .rat))], [(.p (.p (.n 16777216) (.p (.n 16777216) (.n 16777216))) (.n 16777216)), (.p (.n 1048576) (.p (.n 1048576) (.n 1048576))), (.p (.n 1048576) (.p (.n 1048576) (.n 1048576)))], fun _ => [], fun b z => (fun (q : (Rat × Rat × Rat) × Rat) (a : Rat × Rat × Rat) (b_ : Rat × Rat × Rat) => .c (.agg [.dt tPl (.p (bV3 (15 * max (b1 b).mx (b2 b).mx + 6 * (b0 b).mx + 11)) (.n (15 * max (b1 b).mx (b2 b).mx + 6 * (b0 b).mx + 11))) (upP q a b_)])) z.1 z.2.1 z.2.2⟩
theorem Lj : Li.OK Tryz.prog := mkF hmix 19 Tryz.func62 rfl rfl (by decide) [(25, .c wW), (33, .c Bg), (118, .c AF)] (fun _ => rfl) (fun _ => rfl) (fun _ _ => rfl) (fun (q : (Rat × Rat × Rat) × Rat) (a : Rat × Rat × Rat) (b_ : Rat × Rat × Rat) b hx hp => jh (up_b (Bnds.h3 hx).1 (Bnds.h3 hx).2.1 (Bnds.h3 hx).2.2)) (fun (q : (Rat × Rat × Rat) × Rat) (a : Rat × Rat × Rat) (b_ : Rat × Rat × Rat) hx hp => by
 exact ⟨.nil, kcast (by kernel_rfl) ((rfl : (qb (subV b_ a) q.1, dotQ (qb (subV b_ a) q.1) a) = upP q a b_))⟩)
abbrev Lh : Ctr Tryz.prog := FI.c Lj
abbrev QV : FI := ⟨67, [(.pr (.pr .rat (.pr .rat .rat)) (.pr (.pr .rat (.pr .rat .rat)) (.pr .rat (.pr .rat .rat))))], [(.p (.p (.n 1048576) (.p (.n 1048576) (.n 1048576))) (.p (.p (.n 1048576) (.p (.n 1048576) (.n 1048576))) (.p (.n 1048576) (.p (.n 1048576) (.n 1048576)))))], fun _ => [], fun b z => (fun (t : (Rat × Rat × Rat) × (Rat × Rat × Rat) × Rat × Rat × Rat) => .c (.one (.dt .bool .u (decide (qy t = (0, 0, 0)))))) z⟩
theorem QW : QV.OK Tryz.prog := mkF hmix 15 Tryz.func67 rfl rfl (by decide) [(128, .c wV), (135, .c E6), (136, .c AE)] (fun _ => rfl) (fun _ => rfl) (fun _ _ => rfl) (fun (t : (Rat × Rat × Rat) × (Rat × Rat × Rat) × Rat × Rat × Rat) b hx hp => qe trivial rfl) (fun (t : (Rat × Rat × Rat) × (Rat × Rat × Rat) × Rat × Rat × Rat) hx hp => by
 exact ⟨.nil, kcast (by kernel_rfl) ((rfl : decide ((qb (subV t.2.1 t.1) (subV t.2.2 t.1)) = (0, 0, 0)) = decide (qy t = (0, 0, 0))))⟩)
abbrev Jn : Ctr Tryz.prog := FI.c QW
abbrev QY : FI := ⟨58, [(.pr (.pr .rat (.pr .rat .rat)) (.pr (.pr .rat (.pr .rat .rat)) (.pr .rat (.pr .rat .rat))))], [(.p (.p (.n 1048576) (.p (.n 1048576) (.n 1048576))) (.p (.p (.n 1048576) (.p (.n 1048576) (.n 1048576))) (.p (.n 1048576) (.p (.n 1048576) (.n 1048576)))))], fun _ => [], fun b z => (fun (t : (Rat × Rat × Rat) × (Rat × Rat × Rat) × Rat × Rat × Rat) => .c (.one (.dt .bool .u (decide (qy t = (0, 0, 0)))))) z⟩
theorem QZ : QY.OK Tryz.prog := mkF hmix 15 Tryz.func58 rfl rfl (by decide) [(25, .c wW), (118, .c AF), (126, .c Iu)] (fun _ => rfl) (fun _ => rfl) (fun _ _ => rfl) (fun (t : (Rat × Rat × Rat) × (Rat × Rat × Rat) × Rat × Rat × Rat) b hx hp => qe trivial rfl) (fun (t : (Rat × Rat × Rat) × (Rat × Rat × Rat) × Rat × Rat × Rat) hx hp => by
 exact ⟨.nil, kcast (by kernel_rfl) ((rfl : decide ((qb (subV t.2.1 t.1) (subV t.2.2 t.1)) = (0, 0, 0)) = decide (qy t = (0, 0, 0))))⟩)
abbrev QX : Ctr Tryz.prog := FI.c QZ
abbrev Mt : FI := ⟨68, [(.pr (.pr .rat (.pr .rat .rat)) (.pr (.pr .rat (.pr .rat .rat)) (.pr .rat (.pr .rat .rat))))], [(.p (.p (.n 1048576) (.p (.n 1048576) (.n 1048576))) (.p (.p (.n 1048576) (.p (.n 1048576) (.n 1048576))) (.p (.n 1048576) (.p (.n 1048576) (.n 1048576)))))], fun _ => [], fun b z => (fun (t : (Rat × Rat × Rat) × (Rat × Rat × Rat) × Rat × Rat × Rat) => .c (.agg [.dt tPl (.p (bV3 (27 * (b0 b).mx + 17)) (.n (27 * (b0 b).mx + 17))) (qd t)])) z⟩
theorem Mu : Mt.OK Tryz.prog := mkF hmix 16 Tryz.func68 rfl rfl (by decide) [(137, .c Wo)] (fun _ => rfl) (fun _ => rfl) (fun _ _ => rfl) (fun (t : (Rat × Rat × Rat) × (Rat × Rat × Rat) × Rat × Rat × Rat) b hx hp => jh (Dj (Bnds.h1 hx).t3)) (fun (t : (Rat × Rat × Rat) × (Rat × Rat × Rat) × Rat × Rat × Rat) hx hp => by
 exact ⟨.nil, kcast (by kernel_rfl) ((rfl : qd (t.1, t.2.1, t.2.2) = qd t))⟩)
abbrev Gt : Ctr Tryz.prog := FI.c Mu
abbrev Mw : FI := ⟨59, [(.pr (.pr .rat (.pr .rat .rat)) (.pr (.pr .rat (.pr .rat .rat)) (.pr .rat (.pr .rat .rat))))], [(.p (.p (.n 1048576) (.p (.n 1048576) (.n 1048576))) (.p (.p (.n 1048576) (.p (.n 1048576) (.n 1048576))) (.p (.n 1048576) (.p (.n 1048576) (.n 1048576)))))], fun _ => [], fun b z => (fun (t : (Rat × Rat × Rat) × (Rat × Rat × Rat) × Rat × Rat × Rat) => .c (.agg [.dt tPl (.p (bV3 (27 * (b0 b).mx + 17)) (.n (27 * (b0 b).mx + 17))) (qd t)])) z⟩
theorem Mx : Mw.OK Tryz.prog := mkF hmix 21 Tryz.func59 rfl rfl (by decide) [(25, .c wW), (33, .c Bg), (118, .c AF)] (fun _ => rfl) (fun _ => rfl) (fun _ _ => rfl) (fun (t : (Rat × Rat × Rat) × (Rat × Rat × Rat) × Rat × Rat × Rat) b hx hp => jh (Dj (Bnds.h1 hx).t3)) (fun (t : (Rat × Rat × Rat) × (Rat × Rat × Rat) × Rat × Rat × Rat) hx hp => by
 exact ⟨.nil, kcast (by kernel_rfl) ((rfl : (qb (subV t.2.1 t.1) (subV t.2.2 t.1), dotQ (qb (subV t.2.1 t.1) (subV t.2.2 t.1)) t.1) = qd t))⟩)
abbrev Mv : Ctr Tryz.prog := FI.c Mx
abbrev QE : FI := ⟨17, [(.pr (.pr .rat (.pr .rat .rat)) (.pr (.pr .rat (.pr .rat .rat)) (.pr .rat (.pr .rat .rat)))), (.pr .rat (.pr .rat .rat))], [(.p (.p (.n 65536) (.p (.n 65536) (.n 65536))) (.p (.p (.n 65536) (.p (.n 65536) (.n 65536))) (.p (.n 65536) (.p (.n 65536) (.n 65536))))), (.p (.n 65536) (.p (.n 65536) (.n 65536)))], fun _ => [], fun b z => (fun (t : (Rat × Rat × Rat) × (Rat × Rat × Rat) × Rat × Rat × Rat) (p : Rat × Rat × Rat) => .c (.agg [.dt .rat (.n (168 * max (b0 b).mx (b1 b).mx + 116)) (j9 t p)])) z.1 z.2⟩
theorem QF : QE.OK Tryz.prog := mkF hmix 77 Tryz.func17 rfl rfl (by decide) [(65, .c Tm), (66, .c N4), (67, .c Jn), (68, .c Gt), (69, .c Ir), (70, .c Fc), (71, .c F2), (72, .c wU), (73, .c I7), (74, .c F1)] (fun _ => rfl) (fun _ => rfl) (fun _ _ => rfl) (fun (t : (Rat × Rat × Rat) × (Rat × Rat × Rat) × Rat × Rat × Rat) (p : Rat × Rat × Rat) b hx hp => jh (U8 (Bnds.h2 hx).1 (Bnds.h2 hx).2)) (fun (t : (Rat × Rat × Rat) × (Rat × Rat × Rat) × Rat × Rat × Rat) (p : Rat × Rat × Rat) hx hp => by
 exact ⟨.nil, kcast (by kernel_rfl) (And.intro (fun (h1 : decide (qy t = (0, 0, 0)) = true) => (LP (of_decide_eq_true h1) : minQ (minQ (segQ t.1 t.2.1 p) (segQ t.2.1 t.2.2 p)) (segQ t.2.2 t.1 p) = j9 t p)) (fun (h2 : ¬ (decide (qy t = (0, 0, 0)) = true)) => And.intro (fun (h3 : 0 < cmpQ (dotQ ((upP (qd t) t.1 t.2.1).1) p) ((upP (qd t) t.1 t.2.1).2)) => (Bt (fun e => h2 (decide_eq_true e)) (.inl h3) : minQ (minQ (segQ t.1 t.2.1 p) (segQ t.2.1 t.2.2 p)) (segQ t.2.2 t.1 p) = j9 t p)) (fun (h4 : ¬ (0 < cmpQ (dotQ ((upP (qd t) t.1 t.2.1).1) p) ((upP (qd t) t.1 t.2.1).2))) => And.intro (fun (h5 : 0 < cmpQ (dotQ ((upP (qd t) t.2.1 t.2.2).1) p) ((upP (qd t) t.2.1 t.2.2).2)) => (Bt (fun e => h2 (decide_eq_true e)) (.inr (.inl h5)) : minQ (minQ (segQ t.1 t.2.1 p) (segQ t.2.1 t.2.2 p)) (segQ t.2.2 t.1 p) = j9 t p)) (fun (h6 : ¬ (0 < cmpQ (dotQ ((upP (qd t) t.2.1 t.2.2).1) p) ((upP (qd t) t.2.1 t.2.2).2))) => And.intro (fun (h7 : 0 < cmpQ (dotQ ((upP (qd t) t.2.2 t.1).1) p) ((upP (qd t) t.2.2 t.1).2)) => (Bt (fun e => h2 (decide_eq_true e)) (.inr (.inr h7)) : minQ (minQ (segQ t.1 t.2.1 p) (segQ t.2.1 t.2.2 p)) (segQ t.2.2 t.1 p) = j9 t p)) (fun (h8 : ¬ (0 < cmpQ (dotQ ((upP (qd t) t.2.2 t.1).1) p) ((upP (qd t) t.2.2 t.1).2))) => (LQ (fun e => h2 (decide_eq_true e)) h4 h6 h8 : (((dotQ ((qd t).1) p) - ((qd t).2)) * ((dotQ ((qd t).1) p) - ((qd t).2))) / (dotQ ((qd t).1) ((qd t).1)) = j9 t p))))))⟩)
abbrev Ji : Ctr Tryz.prog := FI.c QF
section
section
variable {P : Program}
def GN (P : Program) (t : TypeId) : Option (Nat × Nat) :=
 match P.underlying t with
 | some (.array n e) => match P.info? e with
  | some i => some (n, i.size)
  | none => none
 | _ => none
theorem Ke {t : TypeId} {n s : Nat} (h : GN P t = some (n, s)) : ∃ e i, P.underlying t = some (.array n e) ∧ P.info? e = some i ∧ i.size = s := by
 unfold GN at h
 split at h
 ·rename_i n' e he
  split at h
  ·rename_i i hi
   simp only [Option.some.injEq, Prod.mk.injEq] at h; obtain ⟨rfl, rfl⟩ := h
   exact ⟨e, i, he, hi, rfl⟩
  ·cases h
 ·cases h
def zT (t : Ty) (b : Bd) : Nat → List WA → Option (List t.den)
 | 0, [] => some []
 | 0, _ :: _ => none
 | n + 1, l => match cutW 400 l t.w with
  | some (m, r) => match reify t m with
   | some (b', x, []) => bif b'.le b then (match zT t b n r with | some xs => some (x :: xs) | none => none) else none
   | _ => none
  | none => none
theorem wj {t : Ty} {b : Bd} : ∀ {n : Nat} {l : List WA} {xs : List t.den}, zT t b n l = some xs → AImps (WAs.exp l) (allA t xs) ∧ xs.length = n ∧ (WAs.ok l → ∀ x ∈ xs, Bnd t b x)
 | 0, [], xs, h => by simp [zT] at h; subst h; exact ⟨trivial, rfl, fun _ x hx => by simp at hx⟩
 | 0, _ :: _, _, h => by simp [zT] at h
 | n + 1, l, xs, h => by
  simp only [zT] at h
  cases hc : cutW 400 l t.w with
  | none => rw [hc] at h; cases h
  | some q =>
   obtain ⟨m, r⟩ := q
   rw [hc] at h; simp only at h
   obtain ⟨c1, c2, c3⟩ := z6 hc
   split at h
   ·rename_i b' x hr
    cases hb : b'.le b with
    | false => rw [hb] at h; cases h
    | true =>
     rw [hb] at h; simp only [cond_true] at h
     cases hx : zT t b n r with
     | none => rw [hx] at h; cases h
     | some ys =>
      rw [hx] at h; simp at h; subst h
      obtain ⟨m', e1, i1, o1⟩ := jt hr
      have e1 : WAs.exp m = m' := by rw [e1]; simp [WAs.exp]
      subst e1
      obtain ⟨i2, l2, o2⟩ := wj hx
      refine ⟨by rw [c1]; exact vu i1 i2, by simp [l2], fun hk y hy => ?_⟩
      rcases List.mem_cons.1 hy with rfl | hy
      ·exact Bnd.mono hb (o1 (c3 hk).1).1
      ·exact o2 (c3 hk).2 y hy
   ·cases h
theorem Qk {n : Nat} {Ks : List Nat} {st : WSt} (hk : st.Ok) {k : Nat} {B B' : WB} (hL : look st.L k = some B) (hi : BImp k B.exp B'.exp) (hB : B'.ok) :
    EntW n Ks st ⟨st.rm, st.m, st.rL, (k, B') :: st.L⟩ ∧ (⟨st.rm, st.m, st.rL, (k, B') :: st.L⟩ : WSt).Ok := by
  have hlk : ∀ q b', qi ⟨st.rm, st.m, st.rL, (k, B') :: st.L⟩ q = some b' → (q = k ∧ b' = B') ∨ (q ≠ k ∧ qi st q = some b') := by
    intro q b' h
    unfold qi at h
    simp only [look] at h
    by_cases e : k = q
    · subst e; simp at h; exact .inl ⟨rfl, h.symm⟩
    · rw [beqF e] at h; exact .inr ⟨fun e' => e e'.symm, h⟩
  have hlB : qi st k = some B := by unfold qi; rw [hL]
  refine ⟨DP (fun t v' h => ⟨v', h, fun _ _ _ h => h⟩) fun q b' h => ?_, fun t v h => hk.m t v h, fun q b' h => ?_, hk.dm, fun q hq => ?_⟩
  · rcases hlk q b' h with ⟨rfl, rfl⟩ | ⟨_, h⟩
    · exact ⟨B, hlB, hi⟩
    · exact ⟨b', h, fun _ _ _ h => h⟩
  · rcases hlk q b' h with ⟨rfl, rfl⟩ | ⟨_, h⟩
    · exact hB
    · exact hk.l q b' h
  · have h0 := hk.dl q hq
    have hne : k ≠ q := fun e => by subst e; rw [h0] at hL; cases hL
    show look ((k, B') :: st.L) q = none
    simp only [look, beqF hne, cond_false]; exact h0
theorem Mn {α : Type} {l : List (Nat × α)} {k q : Nat} (h : k ≠ q) : look (l.filter fun p => !Nat.beq p.1 k) q = look l q := by
 induction l with
 | nil => rfl
 | cons p r ih =>
  obtain ⟨a, v⟩ := p
  simp only [List.filter_cons]
  by_cases e : a = k
  ·subst e
   rw [if_neg (by simp), ih]; simp only [look, beqF h, cond_false]
  ·rw [if_pos (by rw [beqF e]; rfl)]
   simp only [look, ih]
def cpyL {α : Type} (l : List α) (lo lo2 m : Nat) : List α := l.take lo ++ ((l.drop lo2).take m ++ l.drop (lo + m))
theorem NZ (t : Ty) (l : List t.den) (lo lo2 m : Nat) (h2 : lo2 + m ≤ l.length) : spl (allA t l) (lo * t.w) (((allA t l).drop (lo2 * t.w)).take (m * t.w)) = allA t (cpyL l lo lo2 m) := by
 have e : ((allA t l).drop (lo2 * t.w)).take (m * t.w) = allA t ((l.drop lo2).take m) := by rw [Ag, Ah]
 unfold spl cpyL
 have hl : ((l.drop lo2).take m).length = m := by rw [List.length_take, List.length_drop]; omega
 rw [e, zB, zB, Ah, jw, hl, ← Nat.add_mul, Ag]
theorem O0 {α : Type} {l : List α} {lo lo2 m : Nat} {x : α} (h : x ∈ cpyL l lo lo2 m) : x ∈ l := by
 unfold cpyL at h
 rcases List.mem_append.1 h with h | h
 ·exact List.mem_of_mem_take h
 ·rcases List.mem_append.1 h with h | h
  ·exact List.mem_of_mem_drop (List.mem_of_mem_take h)
  ·exact List.mem_of_mem_drop h
theorem Step.same {w : World} {H : Heap} {β : Bm} (k : Nat) (h : Heap.On H w) : Step w H β [k] [] [] w H β :=
 ⟨rfl, rfl, rfl, Nat.le_refl _, fun _ _ _ => rfl, Heap.Le.refl _, fun b hb => .inl hb, h, fun _ _ => rfl, fun k hk => by simp at hk, fun k hk => by simp at hk⟩
theorem Xp {t u ty : TypeId} {x y : Operand} {k off off2 lo lo2 n1 n2 es bb : Nat} {cs : List Atom} (hb : elB P t = some (es, bb)) (hcs : off + n1 * es ≤ cs.length) (hcs2 : off2 + n2 * es ≤ cs.length) :
    OpOk P (.call { callee := .builtin .copy, args := #[x, y], argTypes := #[t, u] }) ty [(x, .c (.one (.so k off lo n1))), (y, .c (.one (.so k off2 lo2 n2)))] [(k, .grow es cs)] (vInt .i64 ((min n2 n1 : Nat) : Int)) [(k, some (.grow es (spl cs off ((cs.drop off2).take (min n2 n1 * es)))))] := by
  intro dst pos after guard a w H β K Q hins hkin _ hon hK
  have hx := hins _ List.mem_cons_self
  have hy := hins (y, .c (.one (.so k off2 lo2 n2))) (by simp)
  simp only at hx hy
  obtain ⟨hrep, hown⟩ := hkin _ List.mem_cons_self
  simp only at hrep hown
  obtain ⟨e, i, h1, h2, rfl, rfl⟩ := A6 hb
  have hexec : ∀ {p1 p2 : Option Addr} {c1 c2 : Nat} {vs : Array Value} {w' : World}, a.eval x = .slice p1 n1 c1 → a.eval y = .slice p2 n2 c2 → (Builtin.firstCells i.size (Nat.min n2 n1) (.slice p2 n2 c2)).run P w = .ok vs w →
      ((match p1 with | some p => (storeCells p vs.toList).run P w | none => .ok () w) = .ok () w') →
      (execOp a.eval ⟨dst, .call { callee := .builtin .copy, args := #[x, y], argTypes := #[t, u] }, ty, pos, after, guard⟩).run P w = .ok (.value (goInt (Nat.min n2 n1))) w' := by
    intro p1 p2 c1 c2 vs w' ex ey hf hs
    cases p1 with
    | none =>
      simp only [Result.ok.injEq] at hs
      simp only [execOp, resolve, Sem.run_bind, Sem.run_pure, Result.andThen_ok, invoke, builtin, List.map_toArray, List.map_cons, List.map_nil, ex, ey, Builtin.copy_, List.getElem?_toArray, List.getElem?_cons_zero, List.getElem?_cons_succ, qp h1, Builtin.lenOf, qR h2, hf]
      simp [hs]
    | some p =>
      simp only at hs
      simp only [execOp, resolve, Sem.run_bind, Sem.run_pure, Result.andThen_ok, invoke, builtin, List.map_toArray, List.map_cons, List.map_nil, ex, ey, Builtin.copy_, List.getElem?_toArray, List.getElem?_cons_zero, List.getElem?_cons_succ, qp h1, Builtin.lenOf, qR h2, hf, hs]
  by_cases hm : n1 = 0 ∨ n2 = 0
  · have hm0 : min n2 n1 = 0 := by omega
    have hm1 : Nat.min n2 n1 = 0 := hm0
    have hx' : ∃ p c, a.eval x = .slice p n1 c := by rcases hx with ⟨rfl, p, c, h⟩ | ⟨b, c, _, h⟩ <;> exact ⟨_, _, h⟩
    have hy' : ∃ p c, a.eval y = .slice p n2 c := by rcases hy with ⟨rfl, p, c, h⟩ | ⟨b, c, _, h⟩ <;> exact ⟨_, _, h⟩
    obtain ⟨p1, c1, ex⟩ := hx'
    obtain ⟨p2, c2, ey⟩ := hy'
    have hf : (Builtin.firstCells i.size (Nat.min n2 n1) (.slice p2 n2 c2)).run P w = .ok #[] w := by
      rw [hm1]
      cases p2 with
      | none => simp [Builtin.firstCells]
      | some p => simp [Builtin.firstCells, loadCells, loadCellsFrom]
    unfold Oper.wp
    rw [hexec (w' := w) ex ey hf (by cases p1 <;> simp [storeCells])]
    refine hK _ w H β ?_ ⟨rfl, rfl⟩ ?_
    · simpa [kwOf, knOf, kdOf, look] using Step.same k hon
    · intro k' b1 hb1
      simp only [List.mem_singleton, Prod.mk.injEq, Option.some.injEq] at hb1
      obtain ⟨rfl, rfl⟩ := hb1
      have : spl cs off ((cs.drop off2).take (min n2 n1 * i.size)) = cs := by rw [hm0]; simp [spl]
      rw [this]; exact hrep
  · have hn1 : n1 ≠ 0 := fun e => hm (.inl e)
    have hn2 : n2 ≠ 0 := fun e => hm (.inr e)
    rcases hx with ⟨h, _⟩ | ⟨b, c, hβ, ex⟩
    · exact absurd h hn1
    rcases hy with ⟨h, _⟩ | ⟨b', c', hβ', ey⟩
    · exact absurd h hn2
    rw [hβ] at hβ'; cases hβ'
    rcases hrep with ⟨hβ', _⟩ | ⟨b', c', arr, T, hβ', hw, hcap, hle, hsat⟩
    · rw [hβ] at hβ'; cases hβ'
    rw [hβ] at hβ'; cases hβ'
    have hmin : Nat.min n2 n1 = min n2 n1 := rfl
    have q1 : min n2 n1 * i.size ≤ n1 * i.size := Nat.mul_le_mul_right _ (Nat.min_le_right _ _)
    have q2 : min n2 n1 * i.size ≤ n2 * i.size := Nat.mul_le_mul_right _ (Nat.min_le_left _ _)
    generalize hM : min n2 n1 * i.size = M at *
    have hV : ((arr.toList.drop off2).take M).length = M := by simp; omega
    have hf : (Builtin.firstCells i.size (Nat.min n2 n1) (.slice (some ⟨b, off2, none⟩) n2 (c - lo2))).run P w = .ok ((arr.toList.drop off2).take M).toArray w := by
      have := run_loadCells_list (P := P) w ⟨b, off2, none⟩ ((arr.toList.drop off2).take M) (by
        intro j v hv
        rw [j6, wJ hw]
        have hj : j < M := by
          rcases Nat.lt_or_ge j M with h' | h'
          · exact h'
          · rw [List.getElem?_eq_none (by omega)] at hv; cases hv
        rw [List.getElem?_take_of_lt hj, List.getElem?_drop] at hv
        simpa using hv)
      rw [hV] at this
      simp only [Builtin.firstCells, hmin, hM, this]
    have hs2 : Sats β H ((cs.drop off2).take M) ((arr.toList.drop off2).take M) := by
      have := (hsat.drop off2).take M
      rw [List.drop_take, List.take_take, Nat.min_eq_left (by omega)] at this
      exact this
    obtain ⟨w', hrun, hset⟩ := vy (P := P) ((arr.toList.drop off2).take M) off 0 w arr hw (Sats.oneC hs2) (by rw [hV]; omega)
    unfold Oper.wp
    rw [hexec (w' := w') ex ey hf (by simpa using hrun)]
    have hspl : (spl cs off ((cs.drop off2).take M)).length = cs.length := by simp [spl]; omega
    have hsplv : (spl arr.toList off ((arr.toList.drop off2).take M)).length = arr.size := by simp [spl]; omega
    refine hK _ w' H β ?_ ⟨rfl, rfl⟩ ?_
    · simpa [kwOf, knOf, kdOf, look] using Step.setArr hset hβ (hown b c hβ).1 hon
    · intro k' b1 hb1
      simp only [List.mem_singleton, Prod.mk.injEq, Option.some.injEq] at hb1
      obtain ⟨rfl, rfl⟩ := hb1
      have hat := hset.at_
      rw [Nat.add_zero] at hat
      refine .inr ⟨b, c, _, T, hβ, hat, by simpa [hsplv] using hcap, by simp [hspl, hsplv]; omega, ?_⟩
      have h3 := hsat.spl off hs2
      generalize hVV : (arr.toList.drop off2).take M = V at *
      have h4 : (spl arr.toList off V).take (spl cs off ((cs.drop off2).take M)).length = spl (arr.toList.take cs.length) off V := by
        rw [hspl]
        unfold spl
        rw [List.take_append, List.take_append, List.take_take, List.drop_take]
        have e1 : min cs.length off = off := by omega
        have e2 : min off cs.length = off := by omega
        simp [List.length_take]
        have e3 : min off arr.size = off := by omega
        rw [e3]
        have e4 : List.take (cs.length - off) V = V := List.take_of_length_le (by omega)
        rw [e4, e1, List.take_take, e2, Nat.sub_sub]
      simpa [h4] using h3
def gCpy (P : Program) : Op → Option Tmp → (Nat → Option WB) → List WV → HR
 | .call { callee := .builtin .copy, args := aas, argTypes := ts }, _, bl, [.c (.one (.so k lo n1 w nb)), .c (.one (.so k2 lo2 n2 w2 nb2))] => match aas.toList, ts.toList, bl k with
  | [_, _], [t, _], some (.gro t' b l) => match elB P t with
   | some (es, _) => bif Nat.beq k k2 && (Nat.beq w t'.w && (Nat.beq w2 t'.w && Nat.beq es t'.w)) then .ok [lo + n1 ≤ l.length, lo2 + n2 ≤ l.length] (vN .i64 nb2 (min n2 n1)) [k] [(k, some (.gro t' b (cpyL l lo lo2 (min n2 n1))))] else .bad
   | none => .bad
  | _, _, _ => .bad
 | _, _, _, _ => .bad
def Ew : Ext P := ⟨gCpy P, by
 intro op dst ty bl vs hl
 unfold gCpy
 split
 ·rename_i aas ts _ _ k lo n1 w nb k2 lo2 n2 w2 nb2
  split
  ·rename_i x y t u t' b l ha ht hbl
   split
   ·rename_i es bb hb
    cases hc : Nat.beq k k2 && (Nat.beq w t'.w && (Nat.beq w2 t'.w && Nat.beq es t'.w)) with
    | false => exact trivial
    | true =>
     simp only [Bool.and_eq_true] at hc
     obtain ⟨q1, q2, q3, q4⟩ := hc
     have q1 := Nat.eq_of_beq_eq_true q1; have q2 := Nat.eq_of_beq_eq_true q2; have q3 := Nat.eq_of_beq_eq_true q3; have q4 := Nat.eq_of_beq_eq_true q4
     subst q1 q2 q3 q4
     have := wR ha; subst this
     have := wR ht; subst this
     simp only [cond_true]
     intro hv hbo hvc kin hk hkb
     rw [jO hk hkb hbl]
     have h1 : lo + n1 ≤ l.length := hvc _ List.mem_cons_self
     have h2 : lo2 + n2 ≤ l.length := hvc (lo2 + n2 ≤ l.length) (by simp)
     have hn : n2 ≤ nb2 := (hv (.c (.one (.so k lo2 n2 t'.w nb2))) (by simp)).1
     refine ⟨?_, ⟨show min n2 n1 ≤ nb2 by omega, rfl⟩, jT (show ∀ z ∈ cpyL l lo lo2 (min n2 n1), Bnd t' b z from fun z hz => hbo k _ hbl z (O0 hz))⟩
     show OpOk P _ _ [(x, _), (y, _)] [(k, .grow t'.w (allA t' l))] (vInt .i64 ((min n2 n1 : Nat) : Int)) [(k, some (.grow t'.w (allA t' (cpyL l lo lo2 (min n2 n1)))))]
     rw [← NZ t' l lo lo2 (min n2 n1) (by omega)]
     exact Xp hb (by rw [jw, ← Nat.add_mul]; exact Nat.mul_le_mul_right _ h1) (by rw [jw, ← Nat.add_mul]; exact Nat.mul_le_mul_right _ h2)
   ·exact trivial
  ·exact trivial
 ·exact trivial⟩
end
end
section
section
variable {P : Program}
def ipV (k : Nat) (t : Ty) (b : Bd) (x : t.den) : WV → Option WV
 | .c (.one (.loc k' off)) => bif Nat.beq k' k && Nat.ble off t.w then some (.c (.one (.ip t b x off))) else none
 | _ => none
theorem Oq {k : Nat} {t : Ty} {b : Bd} {x : t.den} {v v' : WV} (h : ipV k t b x v = some v') (hb : Bnd t b x) : RelV k (cellsC t x) none v.exp v'.exp ∧ v'.ok := by
 unfold ipV at h
 split at h
 ·rename_i k' off
  cases hc : Nat.beq k' k && Nat.ble off t.w with
  | false => rw [hc] at h; cases h
  | true =>
   rw [hc] at h
   simp only [cond_true, Option.some.injEq] at h; subst h
   simp only [Bool.and_eq_true] at hc
   have e := Nat.eq_of_beq_eq_true hc.1; subst e
   have hle : off ≤ t.w := Nat.le_of_ble_eq_true hc.2
   refine ⟨N8 (Vv (m := t.w - off) (by rw [qT]; omega) ?_), hb, rfl⟩
   exact List.take_of_length_le (by rw [List.length_drop, qT]; omega)
 ·cases h
def D5 (k : Nat) (t : Ty) (b : Bd) (x : t.den) (ts : List Nat) : List (Nat × WV) → Option (List (Nat × WV))
 | [] => some []
 | p :: r => match D5 k t b x ts r with
  | none => none
  | some r' => bif memN k p.2.ids then (bif memN p.1 ts then (match ipV k t b x p.2 with | some v => some ((p.1, v) :: r') | none => none) else some r') else some (p :: r')
theorem Ey {k : Nat} {t : Ty} {b : Bd} {x : t.den} {ts : List Nat} (hb : Bnd t b x) : ∀ {m m' : List (Nat × WV)}, D5 k t b x ts m = some m' → (∀ p ∈ m, p.2.ok) → ∀ q ∈ m', ∃ p ∈ m, p.1 = q.1 ∧ RelV k (cellsC t x) none p.2.exp q.2.exp ∧ q.2.ok
 | [], m', h, _, q, hq => by simp [D5] at h; subst h; simp at hq
 | p :: r, m', h, hok, q, hq => by
  simp only [D5] at h
  cases h1 : D5 k t b x ts r with
  | none => rw [h1] at h; cases h
  | some r' =>
   rw [h1] at h; simp only at h
   have ih := Ey hb h1 (fun p hp => hok p (List.mem_cons_of_mem _ hp))
   have up : ∀ q ∈ r', ∃ p' ∈ p :: r, p'.1 = q.1 ∧ RelV k (cellsC t x) none p'.2.exp q.2.exp ∧ q.2.ok := fun q hq => by
    obtain ⟨p', a, c⟩ := ih q hq; exact ⟨p', List.mem_cons_of_mem _ a, c⟩
   cases h2 : memN k p.2.ids with
   | false =>
    rw [h2] at h; simp at h; subst h
    rcases List.mem_cons.1 hq with rfl | hq
    ·exact ⟨q, List.mem_cons_self, rfl, Dn, hok q List.mem_cons_self⟩
    ·exact up q hq
   | true =>
    rw [h2] at h; simp only [cond_true] at h
    cases h3 : memN p.1 ts with
    | false => rw [h3] at h; simp at h; subst h; exact up q hq
    | true =>
     rw [h3] at h; simp only [cond_true] at h
     split at h
     ·rename_i v hv
      simp only [Option.some.injEq] at h; subst h
      rcases List.mem_cons.1 hq with rfl | hq
      ·obtain ⟨q1, q2⟩ := Oq hv hb; exact ⟨p, List.mem_cons_self, rfl, q1, q2⟩
      ·exact up q hq
     ·cases h
def Q3 (k : Nat) (t : Ty) (b : Bd) (ts : List Nat) (Ks : List Nat) (st : WSt) : Option (List Prop × WSt) :=
 bif D4 Ks st k && st.L.all (fun p => Nat.beq p.1 k || !memN k p.2.ids) then (match look st.L k with
  | some (.rig l) => match reify t l with
   | some (b', x, []) => bif b'.le b then (match D5 k t b x ts st.m with
    | some m' => some ([], ⟨st.rm, m', st.rL, st.L.filter fun p => !Nat.beq p.1 k⟩)
    | none => none) else none
   | _ => none
  | _ => none) else none
theorem mem_filt {α : Type} {l : List (Nat × α)} {k : Nat} {q : Nat × α} (h : q ∈ l.filter fun p => !Nat.beq p.1 k) : q ∈ l ∧ q.1 ≠ k := by
 obtain ⟨a, c⟩ := List.mem_filter.1 h
 exact ⟨a, fun e => by subst e; simp at c⟩
def frzP (k : Nat) (t : Ty) (b : Bd) (ts : List Nat) : PExt := ⟨Q3 k t b ts, by
 intro n Ks st st' vc hk h hvc
 unfold Q3 at h
 cases hc : D4 Ks st k && st.L.all (fun p => Nat.beq p.1 k || !memN k p.2.ids) with
 | false => rw [hc] at h; cases h
 | true =>
  rw [hc] at h; simp only [cond_true] at h
  rw [Bool.and_eq_true] at hc
  obtain ⟨hc, hc6⟩ := hc
  unfold D4 at hc
  simp only [Bool.and_eq_true, List.all_eq_true] at hc hc6
  obtain ⟨⟨⟨⟨⟨c0, c1⟩, c2⟩, c3⟩, c4⟩, c5⟩ := hc
  split at h
  ·rename_i l hl
   split at h
   ·rename_i b' x hr
    cases hb : b'.le b with
    | false => rw [hb] at h; cases h
    | true =>
     rw [hb] at h; simp only [cond_true] at h
     split at h
     ·rename_i m' hm
      simp only [Option.some.injEq, Prod.mk.injEq] at h; obtain ⟨rfl, rfl⟩ := h
      have hlk : qi st k = some (.rig l) := by unfold qi; rw [hl]
      have hlok : WAs.ok l := hk.l k _ hlk
      obtain ⟨m0, e1, i1, o1⟩ := jt hr
      have e1 : WAs.exp l = m0 := by rw [e1]; simp [WAs.exp]
      subst e1
      have hbn : Bnd t b x := Bnd.mono hb (o1 hlok).1
      have hB1 : (WB.rig [.dt t b x]).ok := j4 hbn
      obtain ⟨ent1, ok1⟩ := Qk (n := n) (Ks := Ks) hk hl (B := .rig l) (B' := .rig [.dt t b x]) (by
       show BImp k (.rigid (WAs.exp l)) (.rigid (WAs.exp [.dt t b x]))
       rw [jF]; exact vg i1) hB1
      have hmok : ∀ p ∈ st.m, p.2.ok := fun p hp => hk.m p.1 p.2 (by unfold qv; rw [v5 c1 hp])
      have sm := Ey hbn hm hmok
      have hM : ∀ t' v', qv ⟨st.rm, m', st.rL, st.L.filter fun p => !Nat.beq p.1 k⟩ t' = some v' → ∃ v, qv st t' = some v ∧ RelV k (cellsC t x) none v.exp v'.exp ∧ v'.ok := by
       intro t' v' hv
       unfold qv at hv
       simp only at hv
       cases hl : look m' t' with
       | some x =>
        rw [hl] at hv; simp at hv; subst hv
        obtain ⟨p, hp, e, h1, h2⟩ := sm _ (qG hl)
        have e' : p.1 = t' := e
        exact ⟨p.2, by unfold qv; rw [← e', v5 c1 hp], h1, h2⟩
       | none =>
        rw [hl] at hv; simp only at hv
        have h3 : qv st t' = some v' := by unfold qv; rw [hk.dm t' (by rw [hv]; simp)]; exact hv
        exact ⟨v', h3, Dn, hk.m t' v' h3⟩
      have hB : ∀ q b', qi ⟨st.rm, m', st.rL, st.L.filter fun p => !Nat.beq p.1 k⟩ q = some b' → q ≠ k ∧ qi st q = some b' ∧ b'.ok := by
       intro q b' hv
       unfold qi at hv
       simp only at hv
       cases hl : look (st.L.filter fun p => !Nat.beq p.1 k) q with
       | some y =>
        rw [hl] at hv; simp at hv; subst hv
        have hq : q ≠ k := (mem_filt (qG hl)).2
        rw [Mn (fun e => hq e.symm)] at hl
        have h3 : qi st q = some y := by unfold qi; rw [hl]
        exact ⟨hq, h3, hk.l q y h3⟩
       | none =>
        rw [hl] at hv; simp only at hv
        have h3 : qi st q = some b' := by unfold qi; rw [hk.dl q (by rw [hv]; simp)]; exact hv
        have h4 := c5 _ (qG hv)
        simp only [Bool.and_eq_true, Bool.not_eq_true'] at h4
        exact ⟨fun e => by subst e; simp at h4, h3, hk.l q b' h3⟩
      have e1L : ∀ q, q ≠ k → qi ⟨st.rm, st.m, st.rL, (k, WB.rig [.dt t b x]) :: st.L⟩ q = qi st q := by
       intro q hq
       unfold qi; simp only [look, beqF (fun e => hq e.symm), cond_false]
      refine ⟨Ent.trans ent1 ?_, ⟨fun t' v' h => (hM t' v' h).choose_spec.2.2, fun q b' h => (hB q b' h).2.2, ?_, ?_⟩, rfl, rfl⟩
      ·refine Hv (k := k) (cells := cellsC t x) (g := none) c0 (fun k0 hk0 => ?_) (.inl ⟨rfl, ?_⟩) ?_ ?_
       ·rw [qB]
        by_cases e : k0 = k
        ·subst e; unfold qi; simp [look]
        ·rw [e1L k0 e]
         obtain ⟨x, hx⟩ := Option.isSome_iff_exists.1 (c3 k0 hk0)
         rw [hx]; simp
       ·rw [qB]
        have : qi ⟨st.rm, st.m, st.rL, (k, WB.rig [.dt t b x]) :: st.L⟩ k = some (.rig [.dt t b x]) := by unfold qi; simp [look]
        rw [this]
        simp only [Option.map_some, WB.exp, jF]; rfl
       ·intro t' av' hv
        rw [jf] at hv
        cases hl : qv ⟨st.rm, m', st.rL, st.L.filter fun p => !Nat.beq p.1 k⟩ t' with
        | none => rw [hl] at hv; cases hv
        | some v' =>
         rw [hl] at hv; simp at hv; subst hv
         obtain ⟨v, h1, h2, _⟩ := hM t' v' hl
         exact ⟨v.exp, by rw [jf]; show (qv st t').map _ = _; rw [h1]; rfl, h2⟩
       ·intro q b' hv
        rw [qB] at hv
        cases hl : qi ⟨st.rm, m', st.rL, st.L.filter fun p => !Nat.beq p.1 k⟩ q with
        | none => rw [hl] at hv; cases hv
        | some b1 =>
         rw [hl] at hv; simp at hv; subst hv
         obtain ⟨h0, h1, _⟩ := hB q b1 hl
         exact ⟨h0, b1.exp, by rw [qB, e1L q h0, h1]; rfl, FT⟩
      ·intro t' ht'
       show look m' t' = none
       refine qV.2 fun q hq e => ?_
       obtain ⟨p, hp, e', _⟩ := sm q hq
       exact absurd e (fun e => (qV.1 (hk.dm t' ht')) p hp (e'.trans e))
      ·intro q hq
       show look (st.L.filter fun p => !Nat.beq p.1 k) q = none
       exact qV.2 fun q' hq' e => (qV.1 (hk.dl q hq)) q' (mem_filt hq').1 e
     ·cases h
   ·cases h
  ·cases h⟩
theorem Gh {H : Heap} : ∀ {l l' : List CAtom} {vs : List Value}, AImps (l.map CAtom.up) (l'.map CAtom.up) → CSats H l vs → CSats H l' vs
 | [], [], [], _, _ => trivial
 | a :: l, a' :: l', v :: vs, h, hs => by
  refine ⟨?_, Gh h.2 hs.2⟩
  have h1 : (CAtom.up a).sat (fun _ => none) H v := by cases a <;> exact hs.1
  have h2 := h.1 _ _ _ h1
  cases a' <;> exact h2
 | [], [], _ :: _, _, hs => hs.elim
 | _ :: _, _ :: _, [], _, hs => hs.elim
 | [], _ :: _, _, h, _ => h.elim
 | _ :: _, [], _, h, _ => h.elim
theorem Oh {t ty : TypeId} {x : Operand} {cells cells' : List CAtom} {n s : Nat} (h : GN P t = some (n, s)) (hi : AImps (cells.map CAtom.up) (cells'.map CAtom.up)) :
    OpOk P (.slice t x none none none) ty [(x, .c (.one (.ptr cells)))] [] (.c (.one (.abs (flP cells' n)))) [] :=
  qt fun a w H β hins _ _ => by
    obtain ⟨e, i, h1, h2, rfl⟩ := Ke h
    obtain ⟨b, off, arr, hx, hH, hs⟩ := hins _ List.mem_cons_self
    simp only at hx hs
    have hlen := zj hi
    simp only [List.length_map] at hlen
    refine ⟨.slice (some ⟨b, off, none⟩) n n, ⟨_, n, rfl, Nat.le_refl _, .inr ⟨b, off, arr, rfl, hH, by rw [← hlen]; exact Gh hi hs⟩⟩, fun _ _ _ _ => ?_⟩
    have hb : (Instr.sliceBounds false n n none none none).run P w = .ok (0, n, n) w := by simp [Instr.sliceBounds]
    simp only [execOp, hx, Option.map_none, Instr.sliceAt, Sem.run_bind, qp h1, Result.andThen_ok, Instr.sureAddr, Sem.run_pure, hb, qR h2]
    by_cases e0 : n = 0
    · rw [if_pos e0]; simp
    · rw [if_neg e0]; simp [j6]
def Q4 (P : Program) (t' : Ty) (b' : Bd) : Op → Option Tmp → (Nat → Option WB) → List WV → HR
 | .slice t _ none none none, _, _, [.c (.one (.ip T b x fo))] => match GN P t with
  | some (n, s) => bif Nat.beq fo 0 && Nat.beq s t'.w then (match zT t' b' n [.dt T b x] with
   | some xs => .ok [] (vL t' n b' xs) [] []
   | none => .bad) else .bad
  | none => .bad
 | _, _, _, _ => .bad
def Jl (t' : Ty) (b' : Bd) : Ext P := ⟨Q4 P t' b', by
 intro op dst ty bl vs hl
 unfold Q4
 split
 ·rename_i T b x fo
  split
  ·rename_i n s h
   cases h0 : Nat.beq fo 0 && Nat.beq s t'.w with
   | false => exact trivial
   | true =>
    simp only [Bool.and_eq_true] at h0
    have := Nat.eq_of_beq_eq_true h0.1; subst this
    simp only [cond_true]
    split
    ·rename_i xs hx
     intro hv _ _ kin hk _
     rw [qg hk]
     obtain ⟨i1, i2, i3⟩ := wj hx
     have hok : Bnd T b x := (hv _ List.mem_cons_self).1
     have hxs := i3 (j4 hok)
     rw [jF, jx] at i1
     refine ⟨?_, ⟨⟨by omega, hxs⟩, rfl⟩, qk⟩
     show OpOk P _ _ _ _ (.c (.one (.abs (flP (allC t' xs) xs.length)))) _
     rw [i2]
     exact Oh (cells := (cellsC T x).drop 0) h (by rw [List.drop_zero]; exact i1)
    ·exact trivial
  ·exact trivial
 ·exact trivial⟩
end
end
section
section
variable {P : Program}
theorem DF : ∀ {a b : List Atom} (i : Nat), AImps a b → AImps (a.drop i) (b.drop i)
 | a, b, 0, h => h
 | [], [], _ + 1, _ => trivial
 | _ :: _, _ :: _, i + 1, h => DF i h.2
 | [], _ :: _, _ + 1, h => h.elim
 | _ :: _, [], _ + 1, h => h.elim
theorem DG : ∀ {a b : List Atom} (i : Nat), AImps a b → AImps (a.take i) (b.take i)
 | [], [], 0, _ => trivial
 | _ :: _, _ :: _, 0, _ => trivial
 | [], [], _ + 1, _ => trivial
 | _ :: _, _ :: _, i + 1, h => ⟨h.1, DG i h.2⟩
 | [], _ :: _, _, h => h.elim
 | _ :: _, [], _, h => h.elim
def gIxA (P : Program) : Op → Option Tmp → (Nat → Option WB) → List WV → HR
 | .indexAddr t _ _, _, _, [.c (.one (.loc k off)), .c (.one (.dt (.nat kk) b i))] => match P.underlying t with
  | some (.array m e) => match P.info? e with
   | some ie => bif Nat.beq off 0 then .ok [(show Nat from i) < m] (.c (.one (.el k i 0 ie.size))) [] [] else .bad
   | none => .bad
  | _ => .bad
 | _, _, _, _ => .bad
def B1 : Ext P := ⟨gIxA P, by
 intro op dst ty bl vs hl
 unfold gIxA
 split
 ·rename_i t k off kk b i
  split
  ·rename_i m e hu
   split
   ·rename_i ie he
    cases h0 : Nat.beq off 0 with
    | false => exact trivial
    | true =>
     have := Nat.eq_of_beq_eq_true h0; subst this
     intro hv _ hvc kin hk _
     rw [qg hk]
     have hlt : (show Nat from i) < m := hvc _ List.mem_cons_self
     refine ⟨?_, ⟨trivial, rfl⟩, qk⟩
     show OpOk P (.indexAddr _ _ _) ty [(_, .c (.one (.loc k 0))), (_, vInt kk (Int.ofNat i))] [] (.c (.one (.loc k (i * ie.size + 0)))) []
     rw [show (show Nat from i) * ie.size + 0 = 0 + (Int.ofNat i).toNat * ie.size by simp]
     exact vK hu he (Int.natCast_nonneg _) (Int.ofNat_lt.2 hlt)
   ·exact trivial
  ·exact trivial
 ·exact trivial⟩
def gLdA (P : Program) (t : Ty) (b : Bd) (n : Nat) : Op → Option Tmp → (Nat → Option WB) → List WV → HR
 | .load ty _, _, bl, [.c (.one (.el k i fo w))] => match bl k, qN P ty with
  | some (.rig l), some (g, s) => match zT t b n l with
   | some xs => bif Nat.beq fo 0 && (Nat.beq w t.w && (Nat.beq s t.w && beqB g t.agg)) && Nat.blt 0 t.w then .ok [i < n] (.c (mkC t b (gt t xs i))) [k] [] else .bad
   | none => .bad
  | _, _ => .bad
 | _, _, _, _ => .bad
theorem HY {l : List Atom} (h : l.length = 1) : ∃ u, l = [u] := by
 match l, h with
 | [u], _ => exact ⟨u, rfl⟩
def A8 (t : Ty) (b : Bd) (n : Nat) : Ext P := ⟨gLdA P t b n, by
 intro op dst ty bl vs hl
 unfold gLdA
 split
 ·rename_i ty' x k i fo w
  split
  ·rename_i l g s hbl hs
   split
   ·rename_i xs hx
    cases h0 : Nat.beq fo 0 && (Nat.beq w t.w && (Nat.beq s t.w && beqB g t.agg)) && Nat.blt 0 t.w with
    | false => exact trivial
    | true =>
     simp only [Bool.and_eq_true] at h0
     obtain ⟨⟨q1, q2, q3, q4⟩, q5⟩ := h0
     have q1 := Nat.eq_of_beq_eq_true q1; have q2 := Nat.eq_of_beq_eq_true q2; have q3 := Nat.eq_of_beq_eq_true q3
     have q5 : 0 < t.w := by simpa using q5
     subst q1 q2 q3
     intro hv hbo hvc kin hk hkb
     rw [jO hk hkb hbl]
     have hin : i < n := hvc _ List.mem_cons_self
     obtain ⟨i1, i2, i3⟩ := wj hx
     have hxs := i3 (hbo k _ hbl)
     have hi : i < xs.length := by omega
     have hlen := zj i1
     have hcut := DG t.w (DF (i * t.w) i1)
     rw [Fm t xs i hi] at hcut
     have hle : (i + 1) * t.w ≤ xs.length * t.w := Nat.mul_le_mul_right _ hi
     rw [Nat.succ_mul] at hle
     rw [jw] at hlen
     refine ⟨?_, Cu (Bnd.gt hxs hi), qk⟩
     have hb : g = t.agg := by cases g <;> cases h : t.agg <;> simp_all [beqB]
     subst hb
     show OpOk P (.load ty' x) _ [(x, .c (.one (.loc k (i * t.w + 0))))] [(k, .rigid (WAs.exp l))] (WV.exp (.c (mkC t b (gt t xs i)))) []
     rw [Dc, Nat.add_zero]
     cases ha : t.agg with
     | true =>
      rw [ha] at hs
      refine (AM hs rfl (by omega)).weak ?_ trivial
      unfold argC; rw [ha]
      exact BD (Em hcut)
     | false =>
      rw [ha] at hs
      have hl1 : (((WAs.exp l).drop (i * t.w)).take t.w).length = 1 := by rw [List.length_take, List.length_drop, Ty.w_one ha]; rw [Ty.w_one ha] at hle hlen; omega
      obtain ⟨u, hu⟩ := HY hl1
      obtain ⟨u', hu'⟩ := HY ((zj hcut).symm.trans hl1)
      rw [hu, hu'] at hcut
      have hat : (WAs.exp l)[i * t.w]? = some u := by
       have h9 : ((WAs.exp l).drop (i * t.w))[0]? = some u := by
        have : (((WAs.exp l).drop (i * t.w)).take t.w)[0]? = some u := by rw [hu]; rfl
        rwa [List.getElem?_take_of_lt (by omega)] at this
       simpa using h9
      refine (AN hs hat).weak ?_ trivial
      unfold argC; rw [ha, hu']
      exact BD (En hcut.1)
   ·exact trivial
  ·exact trivial
 ·exact trivial⟩
end
end
abbrev OW : FI := ⟨248, [.rat], [(.n 68719476736)], fun _ => [], fun b z => (fun (x : Rat) => .tup [.one (.dt (.int .i64) (.n 4294967295) (smlV x)), .one (.dt .bool .u (smlB x))]) z⟩
theorem OX : OW.OK Tryz.prog := mkF hmix 33 Tryz.func248 rfl rfl (by decide) [] (fun _ => rfl) (fun _ => rfl) (fun _ _ => rfl) (fun (x : Rat) b hx hp => qF (qe (Pg x) rfl) (qF (qe trivial rfl) jz)) (fun (x : Rat) hx hp => by
 exact ⟨.nil, kcast (by kernel_rfl) (And.intro (fun (h1 : 0 < (denL x.den).length) => And.intro ((BT (.inl h1)).1 : 0 = smlV x) ((BT (.inl h1)).2 : false = smlB x)) (fun (h2 : ¬ (0 < (denL x.den).length)) => And.intro (fun (h3 : 1 < (limbs x.num.natAbs).length) => And.intro ((BT (.inr h3)).1 : 0 = smlV x) ((BT (.inr h3)).2 : false = smlB x)) (fun (h4 : ¬ (1 < (limbs x.num.natAbs).length)) => And.intro (fun (h5 : (limbs x.num.natAbs).length = 0) => And.intro ((JW h2 h4 h5).1 : 0 = smlV x) ((JW h2 h4 h5).2 : true = smlB x)) (fun (h6 : ¬ ((limbs x.num.natAbs).length = 0)) => I (by omega : 0 < (limbs x.num.natAbs).length) (And.intro (fun (h7 : x.num < 0) => And.intro ((JX h2 h4 h6 h7).1 : -(((limbs x.num.natAbs).getD 0 0 : Nat) : Int) = smlV x) ((JX h2 h4 h6 h7).2 : decide ((limbs x.num.natAbs).getD 0 0 < 268435456) = smlB x)) (fun (h8 : ¬ (x.num < 0)) => And.intro ((JY h2 h4 h6 h8).1 : (((limbs x.num.natAbs).getD 0 0 : Nat) : Int) = smlV x) ((JY h2 h4 h6 h8).2 : decide ((limbs x.num.natAbs).getD 0 0 < 268435456) = smlB x)))))))⟩)
abbrev OV : Ctr Tryz.prog := FI.c OX
abbrev S8 : FI := ⟨249, [(.int .i64)], [(.n 4611686018427387903)], fun _ => [], fun b z => (fun (v : Int) => .c (.one (.dt (.int .i64) (.n 1) (sgnZ v)))) z⟩
theorem S9 : S8.OK Tryz.prog := mkF hmix 9 Tryz.func249 rfl rfl (by decide) [] (fun _ => rfl) (fun _ => rfl) (fun _ _ => rfl) (fun (v : Int) b hx hp => qe (Wb v) rfl) (fun (v : Int) hx hp => by
 exact ⟨.nil, kcast (by kernel_rfl) (And.intro (fun (h1 : 0 < v) => ((if_pos h1).symm : 1 = sgnZ v)) (fun (h2 : ¬ (0 < v)) => And.intro (fun (h3 : v < 0) => (((if_neg h2).trans (if_pos h3)).symm : (-1) = sgnZ v)) (fun (h4 : ¬ (v < 0)) => (((if_neg h2).trans (if_neg h4)).symm : 0 = sgnZ v))))⟩)
abbrev S7 : Ctr Tryz.prog := FI.c S9
theorem nb2 {b : Bool} (h : ¬ (!b) = true) : b = true := by cases b <;> simp_all
abbrev S5 : FI := ⟨188, [(.pr (.pr .rat (.pr .rat .rat)) .rat), (.pr .rat (.pr .rat .rat))], [(.p (.p (.n 16777216) (.p (.n 16777216) (.n 16777216))) (.n 16777216)), (.p (.n 67108864) (.p (.n 67108864) (.n 67108864)))], fun _ => [], fun b z => (fun (q : (Rat × Rat × Rat) × Rat) (p : Rat × Rat × Rat) => .c (.one (.dt (.int .i64) (.n 1) (cmpQ (dotQ q.1 p) q.2)))) z.1 z.2⟩
theorem S6 : S5.OK Tryz.prog := mkF hmix 61 Tryz.func188 rfl rfl (by decide) [(69, .c Ir), (248, .c OV), (249, .c S7)] (fun _ => rfl) (fun _ => rfl) (fun _ _ => rfl) (fun (q : (Rat × Rat × Rat) × Rat) (p : Rat × Rat × Rat) b hx hp => qe (zZ _ _) rfl) (fun (q : (Rat × Rat × Rat) × Rat) (p : Rat × Rat × Rat) hx hp => by
 exact ⟨.cond (.nil) (.cond (.nil) (.h 9 3 (.i (.z ((smlV q.1.1) * (smlV p.1)) 72057594037927936)) (.cond (.nil) (.cond (.nil) (.h 9 3 (.i (.z ((smlV q.1.2.1) * (smlV p.2.1)) 72057594037927936)) (.cond (.nil) (.cond (.nil) (.h 9 3 (.i (.z ((smlV q.1.2.2) * (smlV p.2.2)) 72057594037927936)) (.nil))))))))), kcast (by kernel_rfl) (And.intro (fun (h1 : (!(smlB q.1.1)) = true) => (Eq.refl (cmpQ (dotQ q.1 p) q.2))) (fun (h2 : ¬ ((!(smlB q.1.1)) = true)) => And.intro (fun (h3 : (!(smlB p.1)) = true) => (Eq.refl (cmpQ (dotQ q.1 p) q.2))) (fun (h4 : ¬ ((!(smlB p.1)) = true)) => have hm0 := (Fp (jC (nb2 h2)).2 (jC (nb2 h4)).2); I (by first | exact hm2.1 | exact hm1.1 | exact hm0.1 : qx .mul .i64 (smlV q.1.1) (smlV p.1) ((smlV q.1.1) * (smlV p.1))) (I (by first | exact hm2.2 | exact hm1.2 | exact hm0.2 : Int.natAbs ((smlV q.1.1) * (smlV p.1)) ≤ 72057594037927936) (And.intro (fun (h5 : (!(smlB q.1.2.1)) = true) => (Eq.refl (cmpQ (dotQ q.1 p) q.2))) (fun (h6 : ¬ ((!(smlB q.1.2.1)) = true)) => And.intro (fun (h7 : (!(smlB p.2.1)) = true) => (Eq.refl (cmpQ (dotQ q.1 p) q.2))) (fun (h8 : ¬ ((!(smlB p.2.1)) = true)) => have hm1 := (Fp (jC (nb2 h6)).2 (jC (nb2 h8)).2); I (by first | exact hm2.1 | exact hm1.1 | exact hm0.1 : qx .mul .i64 (smlV q.1.2.1) (smlV p.2.1) ((smlV q.1.2.1) * (smlV p.2.1))) (I (by first | exact hm2.2 | exact hm1.2 | exact hm0.2 : Int.natAbs ((smlV q.1.2.1) * (smlV p.2.1)) ≤ 72057594037927936) (And.intro (fun (h9 : (!(smlB q.1.2.2)) = true) => (Eq.refl (cmpQ (dotQ q.1 p) q.2))) (fun (h10 : ¬ ((!(smlB q.1.2.2)) = true)) => And.intro (fun (h11 : (!(smlB p.2.2)) = true) => (Eq.refl (cmpQ (dotQ q.1 p) q.2))) (fun (h12 : ¬ ((!(smlB p.2.2)) = true)) => have hm2 := (Fp (jC (nb2 h10)).2 (jC (nb2 h12)).2); I (by first | exact hm2.1 | exact hm1.1 | exact hm0.1 : qx .mul .i64 (smlV q.1.2.2) (smlV p.2.2) ((smlV q.1.2.2) * (smlV p.2.2))) (I (by first | exact hm2.2 | exact hm1.2 | exact hm0.2 : Int.natAbs ((smlV q.1.2.2) * (smlV p.2.2)) ≤ 72057594037927936) (And.intro (fun (h13 : (!(smlB q.2)) = true) => (Eq.refl (cmpQ (dotQ q.1 p) q.2))) (fun (h14 : ¬ ((!(smlB q.2)) = true)) => (L2 (nb2 h2) (nb2 h4) (nb2 h6) (nb2 h8) (nb2 h10) (nb2 h12) (nb2 h14) : sgnZ ((((0 + ((smlV q.1.1) * (smlV p.1))) + ((smlV q.1.2.1) * (smlV p.2.1))) + ((smlV q.1.2.2) * (smlV p.2.2))) - (smlV q.2)) = cmpQ (dotQ q.1 p) q.2)))))))))))))))⟩)
abbrev S4 : Ctr Tryz.prog := FI.c S6
section
def unqN {α : Type} (d : α) (e : α → α → Bool) (l : List α) : Nat → List α
 | 0 => []
 | n + 1 => if n = 0 ∨ ¬ e (l.getD n d) (l.getD (n - 1) d) = true then unqN d e l n ++ [l.getD n d] else unqN d e l n
section
variable {α : Type} {d : α} {e : α → α → Bool} {l : List α}
theorem Il (d : α) (e : α → α → Bool) (l : List α) : ∀ n, (unqN d e l n).length ≤ n
 | 0 => Nat.le_refl 0
 | n + 1 => by have := Il d e l n; rw [unqN]; split <;> (try simp only [List.length_append, List.length_cons, List.length_nil]) <;> omega
theorem E4 : ∀ {n : Nat}, n ≤ l.length → ∀ x ∈ unqN d e l n, x ∈ l
 | 0, _, x, h => by cases h
 | n + 1, hn, x, h => by
  rw [unqN] at h; split at h
  ·rcases List.mem_append.1 h with h | h
   ·exact E4 (by omega) x h
   ·simp only [List.mem_singleton] at h; subst h; rw [qM (by omega)]; exact List.getElem_mem _
  ·exact E4 (by omega) x h
structure CmO (d : α) (e : α → α → Bool) (l : List α) (i : Nat) : Prop where
 h : unqN d e l i = l.take i
 h1 : 1 ≤ i
 hl : i ≤ l.length
theorem CmO.start (h : 2 ≤ l.length) : CmO d e l 1 := by
 refine ⟨?_, Nat.le_refl 1, by omega⟩
 rw [unqN, if_pos (.inl rfl), unqN, jB (d := d) (by omega)]; simp
theorem CmO.step {i : Nat} (h : CmO d e l i) (hi : i < l.length) (hp : ¬ e (l.getD i d) (l.getD (i - 1) d) = true) : CmO d e l (i + 1) :=
 ⟨by rw [unqN, if_pos (.inr hp), h.h, jB (d := d) hi], by omega, by omega⟩
theorem CmO.fin {i : Nat} (h : CmO d e l i) (hi : ¬ i < l.length) : unqN d e l l.length = l := by
 have := h.h
 have e1 : i = l.length := by have := h.hl; omega
 rw [e1, List.take_length] at this; exact this
structure CmI (d : α) (e : α → α → Bool) (l m : List α) (k i : Nat) : Prop where
 hl : m.length = l.length
 hk : k + 1 ≤ i
 hi : i ≤ l.length
 ht : m.take k = unqN d e l i
 hd : ∀ j, i ≤ j + 1 → m.getD j d = l.getD j d
theorem CmI.start {i : Nat} (h : CmO d e l i) (hi : i < l.length) (hp : e (l.getD i d) (l.getD (i - 1) d) = true) : CmI d e l l i (i + 1) :=
 ⟨rfl, Nat.le_refl _, hi, by rw [unqN, if_neg (by rintro (h2 | h2); exact absurd h.h1 (by omega); exact h2 hp), h.h], fun _ _ => rfl⟩
theorem SO {m : List α} {k j : Nat} {v : α} (h : k ≠ j) : (m.set k v).getD j d = m.getD j d := by
 rw [List.getD_eq_getElem?_getD, List.getElem?_set_ne h, ← List.getD_eq_getElem?_getD]
theorem CmI.go {m : List α} {k i : Nat} (h : CmI d e l m k i) (hi : i < l.length) (hp : ¬ e (m.getD i d) (m.getD (i - 1) d) = true) : CmI d e l (m.set k (m.getD i d)) (k + 1) (i + 1) := by
 have hk := h.hk
 have e1 := h.hd i (by omega)
 have e2 := h.hd (i - 1) (by omega)
 rw [e1, e2] at hp
 refine ⟨by rw [List.length_set, h.hl], by omega, by omega, ?_, fun j hj => ?_⟩
 ·rw [Ic (by rw [h.hl]; omega), h.ht, unqN, if_pos (.inr hp), e1]
 ·rw [SO (by omega)]; exact h.hd j (by omega)
theorem CmI.stay {m : List α} {k i : Nat} (h : CmI d e l m k i) (hi : i < l.length) (hp : e (m.getD i d) (m.getD (i - 1) d) = true) : CmI d e l m k (i + 1) := by
 have hk := h.hk
 rw [h.hd i (by omega), h.hd (i - 1) (by omega)] at hp
 exact ⟨h.hl, by omega, by omega, by rw [h.ht, unqN, if_neg (by rintro (h2 | h2); omega; exact h2 hp)], fun j hj => h.hd j (by omega)⟩
theorem CmI.fin {m : List α} {k i : Nat} (h : CmI d e l m k i) (hi : i = l.length) : m.take k = unqN d e l l.length ∧ k = (unqN d e l l.length).length ∧ k < l.length := by
 have hk := h.hk
 subst hi
 have ht := h.ht
 refine ⟨ht, ?_, by omega⟩
 rw [← ht, List.length_take, h.hl]; omega
end
section
variable {α : Type} {d : α} {e : α → α → Bool} {l : List α}
def unqD (d : α) (e : α → α → Bool) (l : List α) : List α := unqN d e l l.length
def unqF (d : α) (e : α → α → Bool) (l : List α) : List α := unqD d e l ++ List.replicate (l.length - (unqD d e l).length) d
theorem Dt : (unqD d e l).length ≤ l.length := Il d e l _
theorem Po : (unqF d e l).length = l.length := by
 have := Dt (d := d) (e := e) (l := l)
 unfold unqF; simp only [List.length_append, List.length_replicate]; omega
theorem Np : (unqF d e l).take (unqD d e l).length = unqD d e l := by unfold unqF; simp
theorem GD (h : unqD d e l = l) : l = unqF d e l := by unfold unqF; rw [h]; simp
theorem Ik : ∀ x ∈ unqD d e l, x ∈ l := E4 (Nat.le_refl _)
theorem Pp {P : α → Prop} (h : ∀ x ∈ l, P x) (h0 : P d) : ∀ x ∈ unqF d e l, P x := fun x hx => by
 rcases List.mem_append.1 hx with hx | hx
 ·exact h x (Ik x hx)
 ·rw [List.eq_of_mem_replicate hx]; exact h0
theorem F9 (h : l.length < 2) : unqD d e l = l := by
 match l, h with
 | [], _ => rfl
 | [x], _ => rfl
theorem CmO.all {i : Nat} (h : CmO d e l i) (hi : ¬ i < l.length) : unqD d e l = l := h.fin hi
theorem CmI.all {t : Ty} {e : t.den → t.den → Bool} {l m : List t.den} {k i n : Nat} (h : CmI t.dft e l m k i) (hi : i = l.length) (hn : n = l.length) : clrL t m k (n - k) = unqF t.dft e l ∧ k = (unqD t.dft e l).length := by
 obtain ⟨h1, h2, h3⟩ := h.fin hi
 refine ⟨?_, h2⟩
 unfold clrL unqF unqD
 have hl := h.hl
 rw [h1, List.drop_of_length_le (by omega), List.append_nil, hn, ← h2]
theorem NU {t : Ty} {l : List t.den} {lo n : Nat} (h : lo + n ≤ l.length) : (clrL t l lo n).length = l.length := by
 unfold clrL; simp only [List.length_append, List.length_take, List.length_replicate, List.length_drop]; omega
end
section
variable {α : Type} (d : α) (c : α → α → Int)
def posR (x : α) (p : List α) : Nat → Nat
 | 0 => 0
 | j + 1 => if c x (p.getD j d) < 0 then posR x p j else j + 1
theorem FM (x : α) (p : List α) : ∀ j, posR d c x p j ≤ j
 | 0 => Nat.le_refl 0
 | j + 1 => by
  unfold posR; split
  ·exact Nat.le_succ_of_le (FM x p j)
  ·exact Nat.le_refl _
def insR (x : α) (p : List α) : List α := p.take (posR d c x p p.length) ++ x :: p.drop (posR d c x p p.length)
theorem HC (x : α) (p : List α) : (insR d c x p).length = p.length + 1 := by
 have := FM d c x p p.length
 unfold insR; simp only [List.length_append, List.length_take, List.length_cons, List.length_drop]; omega
def jH (l : List α) : Nat → List α
 | 0 => []
 | i + 1 => insR d c (l.getD i d) (jH l i)
theorem vp (l : List α) : ∀ i, (jH d c l i).length = i
 | 0 => rfl
 | i + 1 => by rw [jH, HC, vp l i]
def jW (l : List α) : List α := jH d c l l.length
theorem Gy (l : List α) : (jW d c l).length = l.length := vp d c l _
theorem HD {x y : α} {p : List α} : y ∈ insR d c x p ↔ y = x ∨ y ∈ p := by
 unfold insR
 rw [List.mem_append, List.mem_cons]
 constructor
 ·rintro (h | h | h)
  ·exact .inr (List.mem_of_mem_take h)
  ·exact .inl h
  ·exact .inr (List.mem_of_mem_drop h)
 ·rintro (h | h)
  ·exact .inr (.inl h)
  ·rw [← List.take_append_drop (posR d c x p p.length) p] at h
   rcases List.mem_append.1 h with h | h
   ·exact .inl h
   ·exact .inr (.inr h)
theorem Gx {y : α} {l : List α} : ∀ {i}, i ≤ l.length → (y ∈ jH d c l i ↔ y ∈ l.take i)
 | 0, _ => by simp [jH]
 | i + 1, h => by
  rw [jH, HD, Gx (by omega), jB (d := d) (by omega), List.mem_append, List.mem_singleton, Or.comm]
theorem CM {y : α} {l : List α} : y ∈ jW d c l ↔ y ∈ l := by rw [jW, Gx d c (Nat.le_refl _), List.take_length]
structure SoO (l m : List α) (i : Nat) : Prop where
 h : m = jH d c l i ++ l.drop i
 hi : i ≤ l.length
structure SoI (l m : List α) (i j : Nat) : Prop where
 h : m = ((jH d c l i).take j ++ l.getD i d :: (jH d c l i).drop j) ++ l.drop (i + 1)
 hi : i < l.length
 hj : j ≤ i
 hp : posR d c (l.getD i d) (jH d c l i) j = posR d c (l.getD i d) (jH d c l i) i
variable {d c} {l m : List α} {i j : Nat}
theorem SoO.start (h : 1 ≤ l.length) : SoO d c l l 1 := by
 refine ⟨?_, h⟩
 match l, h with
 | x :: r, _ => rfl
theorem SoO.inner (h : SoO d c l m i) (hi : i < l.length) : SoI d c l m i i := by
 have hl := vp d c l i
 refine ⟨?_, hi, Nat.le_refl _, rfl⟩
 have e1 : (jH d c l i).take i = jH d c l i := List.take_of_length_le (by omega)
 have e2 : (jH d c l i).drop i = [] := List.drop_of_length_le (by omega)
 rw [h.h, e1, e2, List.append_assoc, List.drop_eq_getElem_cons hi, qM hi]; rfl
theorem SoI.len (h : SoI d c l m i j) : m.length = l.length := by
 have hl := vp d c l i; have h1 := h.hi; have h2 := h.hj
 rw [h.h]; simp only [List.length_append, List.length_take, List.length_cons, List.length_drop]; omega
theorem SoO.len (h : SoO d c l m i) : m.length = l.length := by
 have hl := vp d c l i; have h1 := h.hi
 rw [h.h]; simp only [List.length_append, List.length_drop]; omega
theorem SoI.at_ (h : SoI d c l m i j) : m.getD j d = l.getD i d := by
 have hl := vp d c l i; have h2 := h.hj
 rw [h.h, List.getD_eq_getElem?_getD, List.getElem?_append_left (by simp only [List.length_append, List.length_take, List.length_cons]; omega), List.getElem?_append_right (by simp only [List.length_take]; omega)]
 simp only [List.length_take, show j - min j (jH d c l i).length = 0 by omega]; rfl
theorem SoI.pred (h : SoI d c l m i j) (h0 : 0 < j) : m.getD (j - 1) d = (jH d c l i).getD (j - 1) d := by
 have hl := vp d c l i; have h2 := h.hj
 rw [h.h, List.getD_eq_getElem?_getD, List.getElem?_append_left (by simp only [List.length_append, List.length_take, List.length_cons]; omega), List.getElem?_append_left (by simp only [List.length_take]; omega), List.getElem?_take_of_lt (by omega), ← List.getD_eq_getElem?_getD]
theorem SoI.step (h : SoI d c l m i j) (h0 : 0 < j) (hc : c (m.getD j d) (m.getD (j - 1) d) < 0) : SoI d c l ((m.set j (m.getD (j - 1) d)).set (j - 1) (m.getD j d)) i (j - 1) := by
 have hl := vp d c l i; have h2 := h.hj
 rw [h.at_, h.pred h0] at hc ⊢
 obtain ⟨k, rfl⟩ : ∃ k, j = k + 1 := ⟨j - 1, by omega⟩
 rw [show k + 1 - 1 = k by omega] at hc ⊢
 refine ⟨?_, h.hi, by omega, ?_⟩
 ·rw [h.h]
  generalize hP : jH d c l i = P at *
  have hk : k < P.length := by omega
  have e1 : P.take (k + 1) = P.take k ++ [P.getD k d] := jB hk
  have e2 : P.drop k = P.getD k d :: P.drop (k + 1) := by rw [qM hk]; exact List.drop_eq_getElem_cons hk
  have e3 : (P.take k).length = k := by rw [List.length_take]; omega
  rw [e1, e2]
  generalize P.take k = A at *; generalize P.getD k d = y at *; generalize l.getD i d = x at *; generalize P.drop (k + 1) = B at *
  subst e3
  have s1 : ∀ (u v w : α) (R : List α), (A ++ u :: v :: R).set (A.length + 1) w = A ++ u :: w :: R := by
   intro u v w R; rw [List.set_append_right _ _ (by omega)]; simp
  have s2 : ∀ (u w : α) (R : List α), (A ++ u :: R).set A.length w = A ++ w :: R := by
   intro u w R; rw [List.set_append_right _ _ (by omega)]; simp
  simp only [List.append_assoc, List.cons_append, List.nil_append, s1, s2]
 ·have e := h.hp
  rw [← e, posR, if_pos hc]
theorem SoI.stop (h : SoI d c l m i j) (hc : ¬ (0 < j) ∨ ¬ c (m.getD j d) (m.getD (j - 1) d) < 0) : SoO d c l m (i + 1) := by
 have hl := vp d c l i; have h2 := h.hj
 have e : posR d c (l.getD i d) (jH d c l i) i = j := by
  rw [← h.hp]
  rcases hc with hc | hc
  ·rw [show j = 0 by omega]; rfl
  ·rcases Nat.eq_zero_or_pos j with h0 | h0
   ·rw [h0]; rfl
   ·rw [h.at_, h.pred h0] at hc
    obtain ⟨k, rfl⟩ : ∃ k, j = k + 1 := ⟨j - 1, by omega⟩
    rw [show k + 1 - 1 = k by omega] at hc
    rw [posR, if_neg hc]
 refine ⟨?_, h.hi⟩
 rw [jH, insR, hl, e]; exact h.h
theorem SoO.fin (h : SoO d c l m i) (hi : ¬ i < l.length) : m = jW d c l := by
 have := h.hi
 have e : i = l.length := by omega
 rw [h.h, e, List.drop_length, List.append_nil]; rfl
theorem Ph (h : ¬ 1 ≤ l.length) : l = jW d c l := by
 match l, h with
 | [], _ => rfl
 | _ :: _, h => exact absurd (Nat.succ_pos _) h
end
end
def cpV (p q : V3) : Int := if cmpQ p.1 q.1 ≠ 0 then cmpQ p.1 q.1 else if cmpQ p.2.1 q.2.1 ≠ 0 then cmpQ p.2.1 q.2.1 else cmpQ p.2.2 q.2.2
theorem Xc (p q : V3) : (cpV p q).natAbs ≤ 1 := by unfold cpV; (repeat' split) <;> exact zZ _ _
theorem zu {x y : Rat} : cmpQ x y = 0 ↔ x = y := by unfold cmpQ; (repeat' split) <;> grind
theorem Xb {p q : V3} : cpV p q = 0 ↔ p = q := by
 rw [vq, ← zu, ← zu, ← zu]; unfold cpV
 by_cases h1 : cmpQ p.1 q.1 = 0
 ·by_cases h2 : cmpQ p.2.1 q.2.1 = 0
  ·simp [h1, h2]
  ·simp [h1, h2]
 ·simp [h1]
theorem PU {p q : V3} (h : cmpQ p.1 q.1 ≠ 0) : cmpQ p.1 q.1 = cpV p q := by unfold cpV; rw [if_pos h]
theorem PV {p q : V3} (h : ¬ cmpQ p.1 q.1 ≠ 0) (h2 : cmpQ p.2.1 q.2.1 ≠ 0) : cmpQ p.2.1 q.2.1 = cpV p q := by unfold cpV; rw [if_neg h, if_pos h2]
theorem PW {p q : V3} (h : ¬ cmpQ p.1 q.1 ≠ 0) (h2 : ¬ cmpQ p.2.1 q.2.1 ≠ 0) (h3 : cmpQ p.2.2 q.2.2 ≠ 0) : cmpQ p.2.2 q.2.2 = cpV p q := by unfold cpV; rw [if_neg h, if_neg h2]
theorem PX {p q : V3} (h : ¬ cmpQ p.1 q.1 ≠ 0) (h2 : ¬ cmpQ p.2.1 q.2.1 ≠ 0) (h3 : ¬ cmpQ p.2.2 q.2.2 ≠ 0) : 0 = cpV p q := by unfold cpV; rw [if_neg h, if_neg h2]; exact (Decidable.of_not_not h3).symm
theorem Ck {p q : V3} : cpV p q < 0 ↔ p.1 < q.1 ∨ (p.1 = q.1 ∧ (p.2.1 < q.2.1 ∨ (p.2.1 = q.2.1 ∧ p.2.2 < q.2.2))) := by
 unfold cpV
 by_cases h1 : cmpQ p.1 q.1 = 0
 ·rw [if_neg (by simpa using h1)]
  have e1 := zu.1 h1
  by_cases h2 : cmpQ p.2.1 q.2.1 = 0
  ·rw [if_neg (by simpa using h2), D0]
   have e2 := zu.1 h2
   grind
  ·rw [if_pos h2, D0]
   have e2 := mt zu.2 h2
   grind
 ·rw [if_pos h1, D0]
  have e1 := mt zu.2 h1
  grind
abbrev eqV : V3 → V3 → Bool := fun p q => decide (p = q)
def insQ (a b p : V3) : Prop := qb (subV b a) (subV p a) = (0, 0, 0) ∧ dotQ (subV a p) (subV b p) < 0
instance (a b p : V3) : Decidable (insQ a b p) := by unfold insQ; infer_instance
def cm (p : V3) (k : Nat) : Rat := [p.1, p.2.1, p.2.2].getD k 0
def Btw (a b p : V3) (k : Nat) : Prop := ∀ j, j < k → ¬ cmpQ (cm a j) (cm p j) * cmpQ (cm p j) (cm b j) < 0
theorem Qv {x y z : Rat} : cmpQ x y * cmpQ y z < 0 ↔ 0 < (x - y) * (z - y) := by
 unfold cmpQ
 have pos : ∀ {u v : Rat}, 0 < u → 0 < v → 0 < u * v := fun h k => Rat.mul_pos h k
 by_cases h1 : x < y
 ·by_cases h2 : y < z
  ·rw [if_pos h1, if_pos h2]
   have := pos (show 0 < y - x by grind) (show 0 < z - y by grind)
   grind
  ·by_cases h3 : y = z
   ·subst h3; rw [if_pos h1, if_neg h2, if_pos rfl]; grind
   ·rw [if_pos h1, if_neg h2, if_neg h3]
    have := pos (show 0 < y - x by grind) (show 0 < y - z by grind)
    grind
 ·by_cases h0 : x = y
  ·subst h0; rw [if_neg h1, if_pos rfl]; grind
  ·by_cases h2 : y < z
   ·rw [if_neg h1, if_neg h0, if_pos h2]
    have := pos (show 0 < x - y by grind) (show 0 < z - y by grind)
    grind
   ·by_cases h3 : y = z
    ·subst h3; rw [if_neg h1, if_neg h0, if_neg h2, if_pos rfl]; grind
    ·rw [if_neg h1, if_neg h0, if_neg h2, if_neg h3]
     have := pos (show 0 < x - y by grind) (show 0 < y - z by grind)
     grind
theorem wL {a b p : V3} : insQ a b p ↔ Btw a b p 3 ∧ a ≠ p ∧ b ≠ p ∧ qb (subV b a) (subV p a) = (0, 0, 0) := by
 obtain ⟨a1, a2, a3⟩ := a; obtain ⟨b1, b2, b3⟩ := b; obtain ⟨p1, p2, p3⟩ := p
 have hB : Btw (a1, a2, a3) (b1, b2, b3) (p1, p2, p3) 3 ↔ (a1 - p1) * (b1 - p1) ≤ 0 ∧ (a2 - p2) * (b2 - p2) ≤ 0 ∧ (a3 - p3) * (b3 - p3) ≤ 0 := by
  unfold Btw
  simp only [Qv]
  constructor
  ·intro h
   have h0 : ¬ 0 < (a1 - p1) * (b1 - p1) := h 0 (by omega)
   have h1 : ¬ 0 < (a2 - p2) * (b2 - p2) := h 1 (by omega)
   have h2 : ¬ 0 < (a3 - p3) * (b3 - p3) := h 2 (by omega)
   grind
  ·rintro ⟨h0, h1, h2⟩ j hj
   match j, hj with
   | 0, _ => show ¬ 0 < (a1 - p1) * (b1 - p1); grind
   | 1, _ => show ¬ 0 < (a2 - p2) * (b2 - p2); grind
   | 2, _ => show ¬ 0 < (a3 - p3) * (b3 - p3); grind
 unfold insQ
 rw [hB]
 simp only [qb, subV, dotQ, Prod.mk.injEq, ne_eq, not_and]
 have c1 : (b2 - a2) * (p3 - a3) - (b3 - a3) * (p2 - a2) = 0 ↔ (a2 - p2) * (b3 - p3) = (a3 - p3) * (b2 - p2) := by grind
 have c2 : (b3 - a3) * (p1 - a1) - (b1 - a1) * (p3 - a3) = 0 ↔ (a3 - p3) * (b1 - p1) = (a1 - p1) * (b3 - p3) := by grind
 have c3 : (b1 - a1) * (p2 - a2) - (b2 - a2) * (p1 - a1) = 0 ↔ (a1 - p1) * (b2 - p2) = (a2 - p2) * (b1 - p1) := by grind
 rw [c1, c2, c3]
 have z1 : a1 = p1 ↔ a1 - p1 = 0 := by grind
 have z2 : a2 = p2 ↔ a2 - p2 = 0 := by grind
 have z3 : a3 = p3 ↔ a3 - p3 = 0 := by grind
 have y1 : b1 = p1 ↔ b1 - p1 = 0 := by grind
 have y2 : b2 = p2 ↔ b2 - p2 = 0 := by grind
 have y3 : b3 = p3 ↔ b3 - p3 = 0 := by grind
 rw [z1, z2, z3, y1, y2, y3]
 generalize a1 - p1 = u1 at *; generalize a2 - p2 = u2 at *; generalize a3 - p3 = u3 at *
 generalize b1 - p1 = v1 at *; generalize b2 - p2 = v2 at *; generalize b3 - p3 = v3 at *
 constructor
 ·rintro ⟨⟨e1, e2, e3⟩, hd⟩
  have key : ∀ x y n : Rat, x * y * n = (x * x) * (v1 * v1 + v2 * v2 + v3 * v3) → n < 0 → x * y ≤ 0 := by
   intro x y n h hn
   rcases Rat.le_total (a := x * y) (b := 0) with q | q
   ·exact q
   ·have h1 := Rat.mul_nonneg q (show 0 ≤ -n by grind)
    have h2 := Rat.mul_nonneg (jU x) (show 0 ≤ v1 * v1 + v2 * v2 + v3 * v3 by have := jU v1; have := jU v2; have := jU v3; grind)
    have h3 : x * y * n = 0 := by grind
    rcases Rat.mul_eq_zero.1 h3 with h4 | h4 <;> grind
  refine ⟨⟨key u1 v1 _ ?_ hd, key u2 v2 _ ?_ hd, key u3 v3 _ ?_ hd⟩, fun h1 h2 h3 => by subst h1 h2 h3; grind, fun h1 h2 h3 => by subst h1 h2 h3; grind, e1, e2, e3⟩ <;> grind
 ·rintro ⟨⟨h1, h2, h3⟩, n1, n2, e1, e2, e3⟩
  refine ⟨⟨e1, e2, e3⟩, ?_⟩
  have h4 : u1 * v1 + u2 * v2 + u3 * v3 ≤ 0 := by grind
  by_cases h5 : u1 * v1 + u2 * v2 + u3 * v3 = 0
  ·exfalso
   have k1 : u1 * v1 = 0 := by grind
   have k2 : u2 * v2 = 0 := by grind
   have k3 : u3 * v3 = 0 := by grind
   rcases Rat.mul_eq_zero.1 k1 with q1 | q1 <;> rcases Rat.mul_eq_zero.1 k2 with q2 | q2 <;> rcases Rat.mul_eq_zero.1 k3 with q3 | q3 <;> subst q1 q2 q3 <;>
    grind
  ·grind
section
abbrev z3 : V3 := (0, 0, 0)
def valP (q : V3 × Rat) (p : V3) : Rat := dotQ q.1 p - q.2
theorem Ip {q : V3 × Rat} {p : V3} {k m : Nat} (h : Bnd tPl (.p (bV3 k) (.n k)) q) (hp : Bnd tV3 (bV3 m) p) : Bnd .rat (.n (4 * k + 3 * m + 3)) (valP q p) :=
 j8 (wG (wB h.1 hp) h.2) (by omega)
theorem pl_m {b : Bd} {q : V3 × Rat} (h : Bnd tPl b q) : Bnd tPl (.p (bV3 b.mx) (.n b.mx)) q :=
 ⟨vd h.pr.1 b.l_mx, Ae h.pr.2 (Nat.le_trans (Bd.nb_mx _) b.r_mx)⟩
theorem Wn {q : V3 × Rat} {p : V3} {b c : Bd} (h : Bnd tPl b q) (hp : Bnd tV3 c p) : Bnd .rat (.n (4 * b.mx + 3 * c.mx + 3)) (valP q p) := Ip (pl_m h) (vd hp (Nat.le_refl _))
def crsV (q : V3 × Rat) (a b : V3) : V3 := onS a b (valP q a / (valP q a - valP q b))
theorem Q0 {q : V3 × Rat} {a b : V3} {k m : Nat} (h : Bnd tPl (.p (bV3 k) (.n k)) q) (ha : Bnd tV3 (bV3 m) a) (hb : Bnd tV3 (bV3 m) b) : Bnd tV3 (bV3 (12 * (k + m) + 12)) (crsV q a b) := by
 have va := Ip h ha; have vb := Ip h hb
 exact v8 (add_m ha (FY (KR va (wG va vb)) (sub_m hb ha))) (by omega)
theorem PZ {q : V3 × Rat} {a b : V3} {c d e : Bd} (h : Bnd tPl c q) (ha : Bnd tV3 d a) (hb : Bnd tV3 e b) : Bnd tV3 (bV3 (12 * (c.mx + max d.mx e.mx) + 12)) (crsV q a b) :=
 Q0 (pl_m h) (vd ha (by omega)) (vd hb (by omega))
def oppP (q : V3 × Rat) : V3 × Rat := (qh ((-1 : Int) : Rat) q.1, -q.2)
theorem Dd {x : Rat} {m : Nat} (h : Bnd .rat (.n m) x) : Bnd .rat (.n m) (-x) := ⟨by rw [Rat.neg_num, Int.natAbs_neg]; exact h.1, by rw [Rat.neg_den]; exact h.2⟩
theorem UX {x : Rat} (h : ¬ x.num < 0) : decide (0 < (limbs x.num.natAbs).length) = decide ((-x).num < 0) := by
 rw [Rat.neg_num]
 apply decide_eq_decide.2
 have := nl0 (x := x.num.natAbs)
 omega
theorem UY {x : Rat} (h : ¬ ¬ x.num < 0) : false = decide ((-x).num < 0) := by
 rw [Rat.neg_num]; symm; apply decide_eq_false; omega
theorem KM {q : V3 × Rat} {b : Bd} (h : Bnd tPl b q) : Bnd tPl (.p (bV3 (b.mx + 1)) (.n (b.mx + 1))) (oppP q) := by
 have h2 := pl_m h
 have h1 : Bnd .rat (.n 1) ((-1 : Int) : Rat) := ⟨by show (1 : Nat) < 2 ^ 1; omega, by show (1 : Nat) ≤ 2 ^ 1; omega⟩
 exact ⟨v8 (FY h1 h2.1) (by omega), j8 (Dd h2.2) (by omega)⟩
def zO (q : V3 × Rat) (l : List V3) (i : Nat) : List V3 :=
 (if cmpQ (dotQ q.1 (l.getD i z3)) q.2 ≤ 0 then [l.getD i z3] else []) ++
  (if cmpQ (dotQ q.1 (l.getD i z3)) q.2 * cmpQ (dotQ q.1 (l.getD ((i + 1) % l.length) z3)) q.2 < 0 then [crsV q (l.getD i z3) (l.getD ((i + 1) % l.length) z3)] else [])
def qU (q : V3 × Rat) (l : List V3) : Nat → List V3
 | 0 => []
 | i + 1 => qU q l i ++ zO q l i
def qH (q : V3 × Rat) (l : List V3) : List V3 := qU q l l.length
theorem LE (q : V3 × Rat) (l : List V3) (i : Nat) : (zO q l i).length ≤ 2 := by
 unfold zO; (repeat' split) <;> simp
theorem wr (q : V3 × Rat) (l : List V3) : ∀ i, (qU q l i).length ≤ 2 * i
 | 0 => Nat.le_refl 0
 | i + 1 => by have h1 := wr q l i; have h2 := LE q l i; rw [qU, List.length_append]; omega
section
variable {q : V3 × Rat} {l o : List V3} {i : Nat}
theorem J8 (h : o = qU q l i) (h1 : ¬ cmpQ (dotQ q.1 (l.getD i z3)) q.2 ≤ 0) (h2 : ¬ cmpQ (dotQ q.1 (l.getD i z3)) q.2 * cmpQ (dotQ q.1 (l.getD ((i + 1) % l.length) z3)) q.2 < 0) : o = qU q l (i + 1) := by
 rw [qU, zO, if_neg h1, if_neg h2, h]; simp
theorem Ja (h : o = qU q l i) (h1 : cmpQ (dotQ q.1 (l.getD i z3)) q.2 ≤ 0) (h2 : ¬ cmpQ (dotQ q.1 (l.getD i z3)) q.2 * cmpQ (dotQ q.1 (l.getD ((i + 1) % l.length) z3)) q.2 < 0) : o ++ [l.getD i z3] = qU q l (i + 1) := by
 rw [qU, zO, if_pos h1, if_neg h2, h]; simp
theorem J9 (h : o = qU q l i) (h1 : ¬ cmpQ (dotQ q.1 (l.getD i z3)) q.2 ≤ 0) (h2 : cmpQ (dotQ q.1 (l.getD i z3)) q.2 * cmpQ (dotQ q.1 (l.getD ((i + 1) % l.length) z3)) q.2 < 0) : o ++ [crsV q (l.getD i z3) (l.getD ((i + 1) % l.length) z3)] = qU q l (i + 1) := by
 rw [qU, zO, if_neg h1, if_pos h2, h]; simp
theorem Jb (h : o = qU q l i) (h1 : cmpQ (dotQ q.1 (l.getD i z3)) q.2 ≤ 0) (h2 : cmpQ (dotQ q.1 (l.getD i z3)) q.2 * cmpQ (dotQ q.1 (l.getD ((i + 1) % l.length) z3)) q.2 < 0) : (o ++ [l.getD i z3]) ++ [crsV q (l.getD i z3) (l.getD ((i + 1) % l.length) z3)] = qU q l (i + 1) := by
 rw [qU, zO, if_pos h1, if_pos h2, h]; simp
end
theorem Ee (m : Nat) : Bnd .rat (.n m) 0 := ⟨Nat.pow_pos (by omega), Nat.pow_pos (by omega)⟩
theorem z3_b (m : Nat) : Bnd tV3 (bV3 m) z3 := ⟨Ee _, Ee _, Ee _⟩
theorem EA {l : List V3} {m : Nat} (h : ∀ x ∈ l, Bnd tV3 (bV3 m) x) (i : Nat) : Bnd tV3 (bV3 m) (l.getD i z3) := by
 by_cases hi : i < l.length
 ·rw [qM hi]; exact h _ (List.getElem_mem hi)
 ·rw [List.getD_eq_getElem?_getD, List.getElem?_eq_none (by omega)]; exact z3_b m
theorem Fs {q : V3 × Rat} {l : List V3} {k m : Nat} (hq : Bnd tPl (.p (bV3 k) (.n k)) q) (h : ∀ x ∈ l, Bnd tV3 (bV3 m) x) : ∀ i, ∀ x ∈ qU q l i, Bnd tV3 (bV3 (12 * (k + m) + 12)) x
 | 0, x, hx => by cases hx
 | i + 1, x, hx => by
  rcases List.mem_append.1 hx with hx | hx
  ·exact Fs hq h i x hx
  ·unfold zO at hx
   rcases List.mem_append.1 hx with hx | hx
   ·split at hx
    ·rw [List.mem_singleton.1 hx]; exact v8 (EA h i) (by omega)
    ·cases hx
   ·split at hx
    ·rw [List.mem_singleton.1 hx]; exact Q0 hq (EA h i) (EA h _)
    ·cases hx
theorem Bnd.l3 {b : Bd} {l : List V3} (h : Bnd (.sl tV3) b l) : l.length ≤ b.len ∧ ∀ x ∈ l, Bnd tV3 (bV3 b.mx) x := by
 have h2 := h.sl
 have m : b.e.mx ≤ b.mx := by cases b <;> simp [Bd.e, Bd.mx]
 exact ⟨h2.1, fun x hx => vd (h2.2 x hx) m⟩
theorem LG {q : V3 × Rat} {l : List V3} {b c : Bd} (hl : Bnd (.sl tV3) b l) (hq : Bnd tPl c q) : Bnd (.sl tV3) (.s (2 * b.len) (bV3 (12 * (c.mx + b.mx) + 12))) (qH q l) := by
 have h := hl.l3
 have := wr q l l.length
 exact ⟨by show (qU q l l.length).length ≤ _; omega, Fs (pl_m hq) h.2 _⟩
def mid1 (l : List V3) (p : V3) (i : Nat) : Nat → Bool
 | 0 => false
 | m + 1 => mid1 l p i m || decide (insQ (l.getD i z3) ((l.drop (i + 1)).getD m z3) p)
def mid2 (l : List V3) (p : V3) : Nat → Bool
 | 0 => false
 | i + 1 => mid2 l p i || mid1 l p i (l.drop (i + 1)).length
def js (l : List V3) : Nat → List V3
 | 0 => []
 | n + 1 => if mid2 l (l.getD n z3) l.length then js l n else js l n ++ [l.getD n z3]
def qj (l : List V3) : List V3 := unqD z3 eqV (jW z3 cpV l)
def zk (l : List V3) : List V3 := js (qj l) (qj l).length
theorem Ce (l : List V3) : ∀ n, (js l n).length ≤ n
 | 0 => Nat.le_refl 0
 | n + 1 => by
  have := Ce l n
  unfold js; split
  ·omega
  ·rw [List.length_append]; simp only [List.length_cons, List.length_nil]; omega
theorem Cf {l : List V3} {x : V3} : ∀ {n}, n ≤ l.length → x ∈ js l n → x ∈ l
 | 0, _, h => by cases h
 | n + 1, hn, h => by
  unfold js at h
  split at h
  ·exact Cf (by omega) h
  ·rcases List.mem_append.1 h with h | h
   ·exact Cf (by omega) h
   ·rw [List.mem_singleton.1 h, qM (by omega)]; exact List.getElem_mem _
theorem GA {l : List V3} : ∀ x ∈ qj l, x ∈ l := fun x hx => (CM z3 cpV).1 (Ik x hx)
theorem CN (l : List V3) : (qj l).length ≤ l.length := by have := Dt (d := z3) (e := eqV) (l := jW z3 cpV l); rw [Gy] at this; exact this
theorem Cj {l : List V3} {x : V3} (h : x ∈ zk l) : x ∈ l := GA x (Cf (Nat.le_refl _) h)
theorem Ci (l : List V3) : (zk l).length ≤ l.length := Nat.le_trans (Ce _ _) (CN l)
theorem We {l o : List V3} {b : Bd} (h : Bnd (.sl tV3) b l) (hl : o.length ≤ l.length) (hm : ∀ x ∈ o, x ∈ l) : Bnd (.sl tV3) (.s b.len b.e) o :=
 ⟨Nat.le_trans hl h.sl.1, fun x hx => h.sl.2 x (hm x hx)⟩
def qa (a b : T3) : List V3 :=
 qH (upP (qd b) b.2.2 b.1) (qH (upP (qd b) b.2.1 b.2.2) (qH (upP (qd b) b.1 b.2.1) (qH (oppP (qd b)) (qH (qd b) [a.1, a.2.1, a.2.2]))))
def qq (a b : T3) : List V3 := if qy a = z3 ∨ qy b = z3 then [] else zk (qa a b)
end
abbrev Sv : FI := ⟨196, [.rat], [(.n 1099511627776)], fun _ => [], fun b z => (fun (x : Rat) => .c (.agg [.dt .rat (.n (b0 b).nb) (-x)])) z⟩
theorem Sw : Sv.OK Tryz.prog := mkF hmix 16 Tryz.func196 rfl rfl (by decide) [(134, .c CD)] (fun _ => rfl) (fun _ => rfl) (fun _ _ => rfl) (fun (x : Rat) b hx hp => jh (Dd (Ae (Bnds.h1 hx) (Nat.le_refl _)))) (fun (x : Rat) hx hp => by
 have hx0 : Bnd .rat (.n 1099511627776) x := hx
 have hx0 : Bnd .rat (.n 1099511627776) x := hx
 exact ⟨.cond (.h 3 0 (.rat (-x) 1099511627776) (.nil)) (.h 3 0 (.rat (-x) 1099511627776) (.nil)), kcast (by kernel_rfl) (And.intro (fun (h1 : ¬ (x.num < 0)) => I (UX (by assumption) : decide (0 < (limbs x.num.natAbs).length) = decide ((-x).num < 0)) (I (by rw [Rat.neg_num, Int.natAbs_neg] : x.num.natAbs = (-x).num.natAbs) (I (by rw [Rat.neg_den] : denL x.den = denL (-x).den) (I ((Dd hx0).1 : lt2 (-x).num.natAbs 1099511627776) (I ((Dd hx0).2 : le2 (-x).den 1099511627776) ((Eq.refl (-x)))))))) (fun (h2 : ¬ (¬ (x.num < 0))) => I (UY (by assumption) : false = decide ((-x).num < 0)) (I (by rw [Rat.neg_num, Int.natAbs_neg] : x.num.natAbs = (-x).num.natAbs) (I (by rw [Rat.neg_den] : denL x.den = denL (-x).den) (I ((Dd hx0).1 : lt2 (-x).num.natAbs 1099511627776) (I ((Dd hx0).2 : le2 (-x).den 1099511627776) ((Eq.refl (-x)))))))))⟩)
abbrev Su : Ctr Tryz.prog := FI.c Sw
abbrev Vl : FI := ⟨124, [(.pr (.pr .rat (.pr .rat .rat)) .rat)], [(.p (.p (.n 16777216) (.p (.n 16777216) (.n 16777216))) (.n 16777216))], fun _ => [], fun b z => (fun (q : (Rat × Rat × Rat) × Rat) => .c (.agg [.dt tPl (.p (bV3 ((b0 b).mx + 1)) (.n ((b0 b).mx + 1))) (oppP q)])) z⟩
theorem Vm : Vl.OK Tryz.prog := mkF hmix 11 Tryz.func124 rfl rfl (by decide) [(130, .c CT), (132, .c N3), (196, .c Su)] (fun _ => rfl) (fun _ => rfl) (fun _ _ => rfl) (fun (q : (Rat × Rat × Rat) × Rat) b hx hp => jh (KM (Bnds.h1 hx))) (fun (q : (Rat × Rat × Rat) × Rat) hx hp => by
 exact ⟨.nil, kcast (by kernel_rfl) ((rfl : (qh (((-1) : Int) : Rat) q.1, -q.2) = oppP q))⟩)
abbrev Vk : Ctr Tryz.prog := FI.c Vm
abbrev Vo : FI := ⟨61, [(.pr (.pr .rat (.pr .rat .rat)) .rat)], [(.p (.p (.n 16777216) (.p (.n 16777216) (.n 16777216))) (.n 16777216))], fun _ => [], fun b z => (fun (q : (Rat × Rat × Rat) × Rat) => .c (.agg [.dt tPl (.p (bV3 ((b0 b).mx + 1)) (.n ((b0 b).mx + 1))) (oppP q)])) z⟩
theorem Vp : Vo.OK Tryz.prog := mkF hmix 11 Tryz.func61 rfl rfl (by decide) [(22, .c CU), (29, .c Fk), (80, .c NN)] (fun _ => rfl) (fun _ => rfl) (fun _ _ => rfl) (fun (q : (Rat × Rat × Rat) × Rat) b hx hp => jh (KM (Bnds.h1 hx))) (fun (q : (Rat × Rat × Rat) × Rat) hx hp => by
 exact ⟨.nil, kcast (by kernel_rfl) ((rfl : (qh (((-1) : Int) : Rat) q.1, -q.2) = oppP q))⟩)
abbrev Vn : Ctr Tryz.prog := FI.c Vp
abbrev W1 : FI := ⟨203, [(.pr (.pr .rat (.pr .rat .rat)) .rat), (.pr .rat (.pr .rat .rat))], [(.p (.p (.n 16777216) (.p (.n 16777216) (.n 16777216))) (.n 16777216)), (.p (.n 67108864) (.p (.n 67108864) (.n 67108864)))], fun _ => [], fun b z => (fun (q : (Rat × Rat × Rat) × Rat) (p : Rat × Rat × Rat) => .c (.agg [.dt .rat (.n (4 * (b0 b).mx + 3 * (b1 b).mx + 3)) (valP q p)])) z.1 z.2⟩
theorem W4 : W1.OK Tryz.prog := mkF hmix 12 Tryz.func203 rfl rfl (by decide) [(28, .c CX), (33, .c Bg)] (fun _ => rfl) (fun _ => rfl) (fun _ _ => rfl) (fun (q : (Rat × Rat × Rat) × Rat) (p : Rat × Rat × Rat) b hx hp => jh (Wn (Bnds.h2 hx).1 (Bnds.h2 hx).2)) (fun (q : (Rat × Rat × Rat) × Rat) (p : Rat × Rat × Rat) hx hp => by
 exact ⟨.nil, kcast (by kernel_rfl) ((rfl : (dotQ q.1 p) - q.2 = valP q p))⟩)
abbrev W0 : Ctr Tryz.prog := FI.c W4
abbrev OD : FI := ⟨195, [(.pr (.pr .rat (.pr .rat .rat)) .rat), (.pr .rat (.pr .rat .rat)), (.pr .rat (.pr .rat .rat))], [(.p (.p (.n 16777216) (.p (.n 16777216) (.n 16777216))) (.n 16777216)), (.p (.n 67108864) (.p (.n 67108864) (.n 67108864))), (.p (.n 67108864) (.p (.n 67108864) (.n 67108864)))], fun _ => [], fun b z => (fun (q : (Rat × Rat × Rat) × Rat) (a : Rat × Rat × Rat) (b_ : Rat × Rat × Rat) => .c (.agg [.dt tV3 (bV3 (12 * ((b0 b).mx + max (b1 b).mx (b2 b).mx) + 12)) (crsV q a b_)])) z.1 z.2.1 z.2.2⟩
theorem OE : OD.OK Tryz.prog := mkF hmix 40 Tryz.func195 rfl rfl (by decide) [(71, .c F2), (72, .c wU), (73, .c I7), (128, .c wV), (129, .c K2), (130, .c CT)] (fun _ => rfl) (fun _ => rfl) (fun _ _ => rfl) (fun (q : (Rat × Rat × Rat) × Rat) (a : Rat × Rat × Rat) (b_ : Rat × Rat × Rat) b hx hp => jh (PZ (Bnds.h3 hx).1 (Bnds.h3 hx).2.1 (Bnds.h3 hx).2.2)) (fun (q : (Rat × Rat × Rat) × Rat) (a : Rat × Rat × Rat) (b_ : Rat × Rat × Rat) hx hp => by
 exact ⟨.nil, kcast (by kernel_rfl) ((rfl : addV a (qh (((dotQ q.1 a) - q.2) / (((dotQ q.1 a) - q.2) - ((dotQ q.1 b_) - q.2))) (subV b_ a)) = crsV q a b_))⟩)
abbrev OC : Ctr Tryz.prog := FI.c OE
abbrev Sm : FI := ⟨127, [(.pr .rat (.pr .rat .rat)), (.pr .rat (.pr .rat .rat)), (.pr (.pr .rat (.pr .rat .rat)) .rat)], [(.p (.n 67108864) (.p (.n 67108864) (.n 67108864))), (.p (.n 67108864) (.p (.n 67108864) (.n 67108864))), (.p (.p (.n 16777216) (.p (.n 16777216) (.n 16777216))) (.n 16777216))], fun _ => [], fun b z => (fun (a : Rat × Rat × Rat) (b_ : Rat × Rat × Rat) (q : (Rat × Rat × Rat) × Rat) => .c (.agg [.dt tV3 (bV3 (12 * ((b2 b).mx + max (b0 b).mx (b1 b).mx) + 12)) (crsV q a b_)])) z.1 z.2.1 z.2.2⟩
theorem Sn : Sm.OK Tryz.prog := mkF hmix 32 Tryz.func127 rfl rfl (by decide) [(21, .c K3), (22, .c CU), (25, .c wW), (28, .c CX), (86, .c X0), (203, .c W0)] (fun _ => rfl) (fun _ => rfl) (fun _ _ => rfl) (fun (a : Rat × Rat × Rat) (b_ : Rat × Rat × Rat) (q : (Rat × Rat × Rat) × Rat) b hx hp => jh (PZ (Bnds.h3 hx).2.2 (Bnds.h3 hx).1 (Bnds.h3 hx).2.1)) (fun (a : Rat × Rat × Rat) (b_ : Rat × Rat × Rat) (q : (Rat × Rat × Rat) × Rat) hx hp => by
 exact ⟨.nil, kcast (by kernel_rfl) ((rfl : addV a (qh ((valP q a) / ((valP q a) - (valP q b_))) (subV b_ a)) = crsV q a b_))⟩)
abbrev Sl : Ctr Tryz.prog := FI.c Sn
abbrev W5 : FI := ⟨199, [(.pr .rat (.pr .rat .rat)), (.pr .rat (.pr .rat .rat))], [(.p (.n 2147483648) (.p (.n 2147483648) (.n 2147483648))), (.p (.n 2147483648) (.p (.n 2147483648) (.n 2147483648)))], fun _ => [], fun b z => (fun (p : Rat × Rat × Rat) (q : Rat × Rat × Rat) => .c (.one (.dt (.int .i64) (.n 1) (cpV p q)))) z.1 z.2⟩
theorem W6 : W5.OK Tryz.prog := mkF hmix 21 Tryz.func199 rfl rfl (by decide) [(133, .c CC)] (fun _ => rfl) (fun _ => rfl) (fun _ _ => rfl) (fun (p : Rat × Rat × Rat) (q : Rat × Rat × Rat) b hx hp => qe (Xc p q) rfl) (fun (p : Rat × Rat × Rat) (q : Rat × Rat × Rat) hx hp => by
 exact ⟨.nil, kcast (by kernel_rfl) (And.intro (fun (h1 : cmpQ p.1 q.1 ≠ 0) => (PU h1 : cmpQ p.1 q.1 = cpV p q)) (fun (h2 : ¬ (cmpQ p.1 q.1 ≠ 0)) => And.intro (fun (h3 : cmpQ p.2.1 q.2.1 ≠ 0) => (PV h2 h3 : cmpQ p.2.1 q.2.1 = cpV p q)) (fun (h4 : ¬ (cmpQ p.2.1 q.2.1 ≠ 0)) => And.intro (fun (h5 : cmpQ p.2.2 q.2.2 ≠ 0) => (PW h2 h4 h5 : cmpQ p.2.2 q.2.2 = cpV p q)) (fun (h6 : ¬ (cmpQ p.2.2 q.2.2 ≠ 0)) => (PX h2 h4 h6 : 0 = cpV p q)))))⟩)
abbrev Na : Ctr Tryz.prog := FI.c W6
abbrev SZ : FI := ⟨64, [(.pr .rat (.pr .rat .rat)), (.pr .rat (.pr .rat .rat))], [(.p (.n 2147483648) (.p (.n 2147483648) (.n 2147483648))), (.p (.n 2147483648) (.p (.n 2147483648) (.n 2147483648)))], fun _ => [], fun b z => (fun (p : Rat × Rat × Rat) (q : Rat × Rat × Rat) => .c (.one (.dt .bool .u (decide (cpV p q < 0))))) z.1 z.2⟩
theorem T0 : SZ.OK Tryz.prog := mkF hmix 22 Tryz.func64 rfl rfl (by decide) [(32, .c WO)] (fun _ => rfl) (fun _ => rfl) (fun _ _ => rfl) (fun (p : Rat × Rat × Rat) (q : Rat × Rat × Rat) b hx hp => qe trivial rfl) (fun (p : Rat × Rat × Rat) (q : Rat × Rat × Rat) hx hp => by
 exact ⟨.nil, kcast (by kernel_rfl) (And.intro (fun (h1 : cmpQ p.1 q.1 ≠ 0) => (by rw [← PU h1] : decide (cmpQ p.1 q.1 < 0) = decide (cpV p q < 0))) (fun (h2 : ¬ (cmpQ p.1 q.1 ≠ 0)) => And.intro (fun (h3 : cmpQ p.2.1 q.2.1 ≠ 0) => (by rw [← PV h2 h3] : decide (cmpQ p.2.1 q.2.1 < 0) = decide (cpV p q < 0))) (fun (h4 : ¬ (cmpQ p.2.1 q.2.1 ≠ 0)) => And.intro (fun (h5 : cmpQ p.2.2 q.2.2 ≠ 0) => (by rw [← PW h2 h4 h5] : decide (cmpQ p.2.2 q.2.2 < 0) = decide (cpV p q < 0))) (fun (h6 : ¬ (cmpQ p.2.2 q.2.2 ≠ 0)) => (by rw [← PX h2 h4 h6]; rfl : false = decide (cpV p q < 0))))))⟩)
abbrev SY : Ctr Tryz.prog := FI.c T0
abbrev SL : FI := ⟨201, [(.pr .rat (.pr .rat .rat)), (.pr .rat (.pr .rat .rat))], [(.p (.n 2147483648) (.p (.n 2147483648) (.n 2147483648))), (.p (.n 2147483648) (.p (.n 2147483648) (.n 2147483648)))], fun _ => [], fun b z => (fun (p : Rat × Rat × Rat) (q : Rat × Rat × Rat) => .c (.one (.dt .bool .u (decide (p = q))))) z.1 z.2⟩
theorem SM : SL.OK Tryz.prog := mkF hmix 9 Tryz.func201 rfl rfl (by decide) [(199, .c Na)] (fun _ => rfl) (fun _ => rfl) (fun _ _ => rfl) (fun (p : Rat × Rat × Rat) (q : Rat × Rat × Rat) b hx hp => qe trivial rfl) (fun (p : Rat × Rat × Rat) (q : Rat × Rat × Rat) hx hp => by
 exact ⟨.nil, kcast (by kernel_rfl) ((decide_eq_decide.2 Xb : decide (cpV p q = 0) = decide (p = q)))⟩)
abbrev SK : Ctr Tryz.prog := FI.c SM
section
section
variable {a b p : V3} {k : Nat}
theorem Btw.start : Btw a b p 0 := fun j hj => by omega
theorem Btw.step (h : Btw a b p k) (hk : ¬ cmpQ (cm a k) (cm p k) * cmpQ (cm p k) (cm b k) < 0) : Btw a b p (k + 1) := fun j hj => by
 by_cases e : j = k
 ·subst e; exact hk
 ·exact h j (by omega)
theorem Uv (hk : k < 3) (h : cmpQ (cm a k) (cm p k) * cmpQ (cm p k) (cm b k) < 0) : false = decide (insQ a b p) :=
 (decide_eq_false fun e => (wL.1 e).1 k hk h).symm
theorem Uw {q : Prop} (h1 : cmpQ (cm a k) (cm p k) = 0) (h2 : cmpQ (cm p k) (cm b k) ≠ 0) (h3 : cmpQ (cm a k) (cm b k) = 0) : q := by
 have e1 := zu.1 h1; have e3 := zu.1 h3
 exact absurd (zu.2 (e1.symm.trans e3)) h2
theorem Ux (h : decide (a = p) = true) : false = decide (insQ a b p) := (decide_eq_false fun e => (wL.1 e).2.1 (yd h)).symm
theorem Uy (h : decide (b = p) = true) : false = decide (insQ a b p) := (decide_eq_false fun e => (wL.1 e).2.2.1 (yd h)).symm
theorem Uz (h : Btw a b p k) (hk : ¬ k < 3) (h3 : k ≤ 3) (h1 : ¬ decide (a = p) = true) (h2 : ¬ decide (b = p) = true) : decide (qb (subV b a) (subV p a) = (0, 0, 0)) = decide (insQ a b p) := by
 have e : k = 3 := by omega
 subst e
 exact decide_eq_decide.2 ⟨fun e => wL.2 ⟨h, yd' h1, yd' h2, e⟩, fun e => (wL.1 e).2.2.2⟩
theorem UC (h : ¬ decide (qb (subV b a) (subV p a) = (0, 0, 0)) = true) : false = decide (insQ a b p) := (decide_eq_false fun e => yd' h e.1).symm
theorem UD (h : decide (qb (subV b a) (subV p a) = (0, 0, 0)) = true) : decide (sgnQ (dotQ (subV a p) (subV b p)) < 0) = decide (insQ a b p) := by
 have e : sgnQ (dotQ (subV a p) (subV b p)) < 0 ↔ dotQ (subV a p) (subV b p) < 0 := by rw [L1]; (repeat' split) <;> grind
 exact decide_eq_decide.2 ⟨fun q => ⟨yd h, e.1 q⟩, fun q => e.2 q.2⟩
end
section
variable {l : List V3} {p : V3} {i m : Nat} {q : Bool}
theorem UP (h : q = (mid2 l p i || mid1 l p i m)) (hq : q = true) : true = (mid2 l p i || mid1 l p i (m + 1)) := by
 rw [mid1, ← Bool.or_assoc, ← h, hq]; rfl
theorem UO (h : q = (mid2 l p i || mid1 l p i m)) (hq : ¬ q = true) : decide (insQ (l.getD i z3) ((l.drop (i + 1)).getD m z3) p) = (mid2 l p i || mid1 l p i (m + 1)) := by
 have e : q = false := by cases q <;> simp_all
 rw [mid1, ← Bool.or_assoc, ← h, e]; rfl
theorem UQ (h : q = (mid2 l p i || mid1 l p i m)) (hm : ¬ m < (l.drop (i + 1)).length) (hl : m ≤ (l.drop (i + 1)).length) : q = mid2 l p (i + 1) := by
 rw [mid2, h, show m = (l.drop (i + 1)).length by omega]
end
section
variable {l o : List V3} {i k : Nat} {q : Bool}
theorem U2 (h : o = js l i) (hk : q = mid2 l (l.getD i z3) k) (he : ¬ k < l.length) (hl : k ≤ l.length) (hq : ¬ (!q) = true) : o = js l (i + 1) := by
 have e : k = l.length := by omega
 subst e
 have : q = true := by cases q <;> simp_all
 rw [js, if_pos (by rw [← hk, this]), h]
theorem U1 (h : o = js l i) (hk : q = mid2 l (l.getD i z3) k) (he : ¬ k < l.length) (hl : k ≤ l.length) (hq : (!q) = true) : o ++ [l.getD i z3] = js l (i + 1) := by
 have e : k = l.length := by omega
 subst e
 have : q = false := by cases q <;> simp_all
 rw [js, if_neg (by rw [← hk, this]; decide), h]
theorem NY (h : o = js (qj l) i) (hi : ¬ i < (qj l).length) (hl : i ≤ (qj l).length) : o = zk l := by
 rw [h, show i = (qj l).length by omega]; rfl
end
theorem U0 {l : List V3} {b : Bd} (h : Bnd (.sl tV3) b l) : Bnd (.sl tV3) (.s b.len b.e) (zk l) := We h (Ci l) fun x hx => Cj hx
theorem T5 {l : List V3} {m k : Nat} (hl : l.length ≤ k) (h : ∀ x ∈ l, Bnd tV3 (bV3 m) x) : Bnd (.sl tV3) (.s k (bV3 m)) (qj l) := ⟨Nat.le_trans (CN l) hl, fun x hx => h x (GA x hx)⟩
theorem G3 {l : List V3} {m : Nat} (h : ∀ x ∈ l, Bnd tV3 (bV3 m) x) : ∀ x ∈ jW z3 cpV l, Bnd tV3 (bV3 m) x := fun x hx => h x ((CM z3 cpV).1 hx)
theorem Td {l : List V3} {m : Nat} (h : ∀ x ∈ l, Bnd tV3 (bV3 m) x) : ∀ x ∈ unqF z3 eqV l, Bnd tV3 (bV3 m) x := Pp (P := fun x => Bnd tV3 (bV3 m) x) h (z3_b m)
theorem Cb {q : V3 × Rat} {l : List V3} {k m n : Nat} (hq : Bnd tPl (.p (bV3 k) (.n k)) q) (h : ∀ x ∈ l, Bnd tV3 (bV3 m) x) (hn : 12 * (k + m) + 12 ≤ n) : ∀ x ∈ qH q l, Bnd tV3 (bV3 n) x := fun x hx => v8 (Fs hq h _ x hx) hn
theorem wt (q : V3 × Rat) (l : List V3) : (qH q l).length ≤ 2 * l.length := wr q l _
theorem XJ {q : V3 × Rat} {k : Nat} (h : Bnd tPl (.p (bV3 k) (.n k)) q) : Bnd tPl (.p (bV3 (k + 1)) (.n (k + 1))) (oppP q) := by
 have := KM h; simpa [Bd.mx] using this
theorem Lb {a : T3} {m : Nat} (h : Bnd tV3 (bV3 m) a.1 ∧ Bnd tV3 (bV3 m) a.2.1 ∧ Bnd tV3 (bV3 m) a.2.2) : ∀ x ∈ [a.1, a.2.1, a.2.2], Bnd tV3 (bV3 m) x := fun x hx => by
 simp only [List.mem_cons, List.not_mem_nil, or_false] at hx
 rcases hx with rfl | rfl | rfl
 ·exact h.1
 ·exact h.2.1
 ·exact h.2.2
theorem J6 {a b : T3} {m : Nat} (ha : Bnd tV3 (bV3 m) a.1 ∧ Bnd tV3 (bV3 m) a.2.1 ∧ Bnd tV3 (bV3 m) a.2.2) (hb : Bnd tV3 (bV3 m) b.1 ∧ Bnd tV3 (bV3 m) b.2.1 ∧ Bnd tV3 (bV3 m) b.2.2) : (qa a b).length ≤ 96 ∧ ∀ x ∈ qa a b, Bnd tV3 (bV3 (8000000 * m + 6000000)) x := by
 have hp := Dj hb
 have u1 := up_m (m := m) hp.1 hb.1 hb.2.1; have u2 := up_m (m := m) hp.1 hb.2.1 hb.2.2; have u3 := up_m (m := m) hp.1 hb.2.2 hb.1
 have c1 := Cb hp (Lb ha) (Nat.le_refl _)
 have c2 := Cb (XJ hp) c1 (Nat.le_refl _)
 have c3 := Cb u1 c2 (Nat.le_refl _)
 have c4 := Cb u2 c3 (Nat.le_refl _)
 refine ⟨?_, Cb u3 c4 (by omega)⟩
 unfold qa
 have e1 := wt (qd b) [a.1, a.2.1, a.2.2]
 have e2 := wt (oppP (qd b)) (qH (qd b) [a.1, a.2.1, a.2.2])
 have e3 := wt (upP (qd b) b.1 b.2.1) (qH (oppP (qd b)) (qH (qd b) [a.1, a.2.1, a.2.2]))
 have e4 := wt (upP (qd b) b.2.1 b.2.2) (qH (upP (qd b) b.1 b.2.1) (qH (oppP (qd b)) (qH (qd b) [a.1, a.2.1, a.2.2])))
 have e5 := wt (upP (qd b) b.2.2 b.1) (qH (upP (qd b) b.2.1 b.2.2) (qH (upP (qd b) b.1 b.2.1) (qH (oppP (qd b)) (qH (qd b) [a.1, a.2.1, a.2.2]))))
 simp only [List.length_cons, List.length_nil] at e1
 omega
end
abbrev US : FI := ⟨202, [(.pr .rat (.pr .rat .rat)), (.pr .rat (.pr .rat .rat)), (.pr .rat (.pr .rat .rat))], [(.p (.n 536870904) (.p (.n 536870904) (.n 536870904))), (.p (.n 536870904) (.p (.n 536870904) (.n 536870904))), (.p (.n 536870904) (.p (.n 536870904) (.n 536870904)))], fun _ => [], fun b z => (fun (a : Rat × Rat × Rat) (b_ : Rat × Rat × Rat) (p : Rat × Rat × Rat) => .c (.one (.dt .bool .u (decide (insQ a b_ p))))) z.1 z.2.1 z.2.2⟩
theorem UT : US.OK Tryz.prog := mkF hmix 66 Tryz.func202 rfl rfl (by decide) [(128, .c wV), (133, .c CC), (135, .c E6), (136, .c AE), (210, .c Iq)] (fun _ => rfl) (fun _ => rfl) (fun _ _ => rfl) (fun (a : Rat × Rat × Rat) (b_ : Rat × Rat × Rat) (p : Rat × Rat × Rat) b hx hp => qe trivial rfl) (fun (a : Rat × Rat × Rat) (b_ : Rat × Rat × Rat) (p : Rat × Rat × Rat) hx hp => by
 exact ⟨.loop [.s 10 (.nat .i64) (.n 3)] (fun (k : Nat) => Btw a b_ p k ∧ k ≤ 3) (fun (k : Nat) => 3 - k) (fun (k : Nat) => .cond (.h 4 1 (.ext B1) (.h 4 2 (.ext (A8 .rat (.n 536870904) 3)) (.h 4 4 (.ext B1) (.h 4 5 (.ext (A8 .rat (.n 536870904) 3)) (.h 4 8 (.ext B1) (.h 4 9 (.ext (A8 .rat (.n 536870904) 3)) (.h 4 11 (.ext B1) (.h 4 12 (.ext (A8 .rat (.n 536870904) 3)) (.cond (.nil) (.cond (.cond (.h 5 13 (.ext B1) (.h 5 14 (.ext (A8 .rat (.n 536870904) 3)) (.h 5 16 (.ext B1) (.h 5 17 (.ext (A8 .rat (.n 536870904) 3)) (.nil))))) (.nil)) (.nil))))))))))) (.nil)), kcast (by kernel_rfl) (I (⟨Btw.start, by omega⟩ : Btw a b_ p 0 ∧ 0 ≤ 3) (fun (k : Nat) (hb1 : HB [.s 10 (.nat .i64) (.n 3)] k) (hI : Btw a b_ p k ∧ k ≤ 3) => have hv16 := (show k ≤ 3 from hb1); And.intro (fun (h2 : k < 3) => I (by omega : k < 3) (I (by omega : k < 3) (I (by omega : k < 3) (I (by omega : k < 3) (I (by omega : k < 3) (I (by omega : k < 3) (I (by omega : k < 3) (I (by omega : k < 3) (And.intro (fun (h3 : (cmpQ ([a.1, a.2.1, a.2.2].getD k 0) ([p.1, p.2.1, p.2.2].getD k 0)) * (cmpQ ([p.1, p.2.1, p.2.2].getD k 0) ([b_.1, b_.2.1, b_.2.2].getD k 0)) < 0) => (Uv h2 h3 : false = decide (insQ a b_ p))) (fun (h4 : ¬ ((cmpQ ([a.1, a.2.1, a.2.2].getD k 0) ([p.1, p.2.1, p.2.2].getD k 0)) * (cmpQ ([p.1, p.2.1, p.2.2].getD k 0) ([b_.1, b_.2.1, b_.2.2].getD k 0)) < 0)) => And.intro (fun (h5 : cmpQ ([a.1, a.2.1, a.2.2].getD k 0) ([p.1, p.2.1, p.2.2].getD k 0) = 0) => And.intro (fun (h6 : cmpQ ([p.1, p.2.1, p.2.2].getD k 0) ([b_.1, b_.2.1, b_.2.2].getD k 0) ≠ 0) => I (by omega : k < 3) (I (by omega : k < 3) (I (by omega : k < 3) (I (by omega : k < 3) (And.intro (fun (h7 : cmpQ ([a.1, a.2.1, a.2.2].getD k 0) ([b_.1, b_.2.1, b_.2.2].getD k 0) = 0) => (Uw h5 h6 h7 : false = decide (insQ a b_ p))) (fun (h8 : ¬ (cmpQ ([a.1, a.2.1, a.2.2].getD k 0) ([b_.1, b_.2.1, b_.2.2].getD k 0) = 0)) => I (show (k + 1) ≤ 3 by omega : Bnd (.nat .i64) (.n 3) (k + 1)) (And.intro (⟨hI.1.step h4, by omega⟩ : Btw a b_ p (k + 1) ∧ (k + 1) ≤ 3) (by omega : 3 - (k + 1) < 3 - k)))))))) (fun (h9 : ¬ (cmpQ ([p.1, p.2.1, p.2.2].getD k 0) ([b_.1, b_.2.1, b_.2.2].getD k 0) ≠ 0)) => I (show (k + 1) ≤ 3 by omega : Bnd (.nat .i64) (.n 3) (k + 1)) (And.intro (⟨hI.1.step h4, by omega⟩ : Btw a b_ p (k + 1) ∧ (k + 1) ≤ 3) (by omega : 3 - (k + 1) < 3 - k)))) (fun (h10 : ¬ (cmpQ ([a.1, a.2.1, a.2.2].getD k 0) ([p.1, p.2.1, p.2.2].getD k 0) = 0)) => I (show (k + 1) ≤ 3 by omega : Bnd (.nat .i64) (.n 3) (k + 1)) (And.intro (⟨hI.1.step h4, by omega⟩ : Btw a b_ p (k + 1) ∧ (k + 1) ≤ 3) (by omega : 3 - (k + 1) < 3 - k))))))))))))) (fun (h11 : ¬ (k < 3)) => And.intro (fun (h12 : decide (a = p) = true) => (Ux h12 : false = decide (insQ a b_ p))) (fun (h13 : ¬ (decide (a = p) = true)) => And.intro (fun (h14 : decide (b_ = p) = true) => (Uy h14 : false = decide (insQ a b_ p))) (fun (h15 : ¬ (decide (b_ = p) = true)) => (Uz hI.1 h11 hI.2 h13 h15 : decide ((qb (subV b_ a) (subV p a)) = (0, 0, 0)) = decide (insQ a b_ p)))))))⟩)
abbrev UR : Ctr Tryz.prog := FI.c UT
abbrev VI : FI := ⟨63, [(.pr .rat (.pr .rat .rat)), (.pr .rat (.pr .rat .rat)), (.pr .rat (.pr .rat .rat))], [(.p (.n 536870904) (.p (.n 536870904) (.n 536870904))), (.p (.n 536870904) (.p (.n 536870904) (.n 536870904))), (.p (.n 536870904) (.p (.n 536870904) (.n 536870904)))], fun _ => [], fun b z => (fun (a : Rat × Rat × Rat) (b_ : Rat × Rat × Rat) (p : Rat × Rat × Rat) => .c (.one (.dt .bool .u (decide (insQ a b_ p))))) z.1 z.2.1 z.2.2⟩
theorem VJ : VI.OK Tryz.prog := mkF hmix 26 Tryz.func63 rfl rfl (by decide) [(16, .c Dw), (25, .c wW), (33, .c Bg), (118, .c AF), (126, .c Iu)] (fun _ => rfl) (fun _ => rfl) (fun _ _ => rfl) (fun (a : Rat × Rat × Rat) (b_ : Rat × Rat × Rat) (p : Rat × Rat × Rat) b hx hp => qe trivial rfl) (fun (a : Rat × Rat × Rat) (b_ : Rat × Rat × Rat) (p : Rat × Rat × Rat) hx hp => by
 exact ⟨.nil, kcast (by kernel_rfl) (And.intro (fun (h1 : decide ((qb (subV b_ a) (subV p a)) = (0, 0, 0)) = true) => (UD h1 : decide (sgnQ (dotQ (subV a p) (subV b_ p)) < 0) = decide (insQ a b_ p))) (fun (h2 : ¬ (decide ((qb (subV b_ a) (subV p a)) = (0, 0, 0)) = true)) => (UC h2 : false = decide (insQ a b_ p))))⟩)
abbrev VH : Ctr Tryz.prog := FI.c VJ
abbrev S1 : FI := ⟨123, [(.sl (.pr .rat (.pr .rat .rat))), (.pr (.pr .rat (.pr .rat .rat)) .rat)], [(.s 128 (.p (.n 67108864) (.p (.n 67108864) (.n 67108864)))), (.p (.p (.n 16777216) (.p (.n 16777216) (.n 16777216))) (.n 16777216))], fun _ => [], fun b z => (fun (l : List (Rat × Rat × Rat)) (q : (Rat × Rat × Rat) × Rat) => .c (.one (.dt (.sl tV3) (.s (2 * (b0 b).len) (bV3 (12 * ((b1 b).mx + (b0 b).mx) + 12))) (qH q l)))) z.1 z.2⟩
theorem S2 : S1.OK Tryz.prog := mkF hmix 51 Tryz.func123 rfl rfl (by decide) [(188, .c S4), (195, .c OC)] (fun _ => rfl) (fun _ => rfl) (fun _ _ => rfl) (fun (l : List (Rat × Rat × Rat)) (q : (Rat × Rat × Rat) × Rat) b hx hp => qe (LG (Bnds.h2 hx).1 (Bnds.h2 hx).2) rfl) (fun (l : List (Rat × Rat × Rat)) (q : (Rat × Rat × Rat) × Rat) hx hp => by
 have hl0 : l.length ≤ 128 := hx.1.1
 exact ⟨.loop [.s 13 (.nat .i64) (.n 128), .g 5 90001 (.pr .rat (.pr .rat .rat)) (.p (.n 2147483648) (.p (.n 2147483648) (.n 2147483648))) 256] (fun ((i, o) : Nat × List (Rat × Rat × Rat)) => o = qU q l i ∧ i ≤ l.length) (fun ((i, o) : Nat × List (Rat × Rat × Rat)) => l.length - i) (fun ((i, o) : Nat × List (Rat × Rat × Rat)) => .cond (.cond (.h 8 2 (.mk (.im (.pr .rat (.pr .rat .rat)) (.p (.n 2147483648) (.p (.n 2147483648) (.n 2147483648))))) (.cond (.h 10 5 (.mk (.im (.pr .rat (.pr .rat .rat)) (.p (.n 2147483648) (.p (.n 2147483648) (.n 2147483648))))) (.nil)) (.nil))) (.cond (.h 10 5 (.mk (.im (.pr .rat (.pr .rat .rat)) (.p (.n 2147483648) (.p (.n 2147483648) (.n 2147483648))))) (.nil)) (.nil))) (.pre 999999 (.frz 90001 true [4]) (.nil))), kcast (by kernel_rfl) (I (rfl : 0 = ([] : List (Rat × Rat × Rat)).length) (I (⟨rfl, Nat.zero_le _⟩ : ([] : List (Rat × Rat × Rat)) = qU q l 0 ∧ 0 ≤ l.length) (fun (i : Nat) (o : List (Rat × Rat × Rat)) (hb1 : HB [.s 13 (.nat .i64) (.n 128), .g 5 90001 (.pr .rat (.pr .rat .rat)) (.p (.n 2147483648) (.p (.n 2147483648) (.n 2147483648))) 256] (i, o)) (hI : o = qU q l i ∧ i ≤ l.length) => have hv10 := (show i ≤ 128 from hb1.1); have hv11 := (show o.length ≤ 256 from hb1.2.1); have hIi := hI.2; have hol := (show o.length ≤ 2 * i from by rw [hI.1]; exact wr q l i); And.intro (fun (h2 : i < l.length) => I (by omega : i < l.length) (I (by omega : 0 < l.length) (I (Nat.mod_lt _ (by omega) : (i + 1) % l.length < l.length) (And.intro (fun (h3 : cmpQ (dotQ q.1 (l.getD i (0, (0, 0)))) q.2 ≤ 0) => I (by omega : o.length = o.length) (And.intro (fun (h4 : (cmpQ (dotQ q.1 (l.getD i (0, (0, 0)))) q.2) * (cmpQ (dotQ q.1 (l.getD ((i + 1) % l.length) (0, (0, 0)))) q.2) < 0) => I (by (try simp only [List.length_append, List.length_cons, List.length_nil]) <;> omega : o.length + [l.getD i (0, (0, 0))].length = (o ++ [l.getD i (0, (0, 0))]).length) (I (show (i + 1) ≤ 128 by omega : Bnd (.nat .i64) (.n 128) (i + 1)) (I (by (try simp only [List.length_append, List.length_cons, List.length_nil]) <;> omega : (o.length + [l.getD i (0, (0, 0))].length) + [crsV q (l.getD i (0, (0, 0))) (l.getD ((i + 1) % l.length) (0, (0, 0)))].length = ((o ++ [l.getD i (0, (0, 0))]) ++ [crsV q (l.getD i (0, (0, 0))) (l.getD ((i + 1) % l.length) (0, (0, 0)))]).length) (I (by (try simp only [List.length_append, List.length_cons, List.length_nil]) <;> omega : (o.length + [l.getD i (0, (0, 0))].length) + [crsV q (l.getD i (0, (0, 0))) (l.getD ((i + 1) % l.length) (0, (0, 0)))].length ≤ 256) (And.intro (⟨Jb hI.1 h3 h4, by omega⟩ : ((o ++ [l.getD i (0, (0, 0))]) ++ [crsV q (l.getD i (0, (0, 0))) (l.getD ((i + 1) % l.length) (0, (0, 0)))]) = qU q l (i + 1) ∧ (i + 1) ≤ l.length) (by omega : l.length - (i + 1) < l.length - i)))))) (fun (h5 : ¬ ((cmpQ (dotQ q.1 (l.getD i (0, (0, 0)))) q.2) * (cmpQ (dotQ q.1 (l.getD ((i + 1) % l.length) (0, (0, 0)))) q.2) < 0)) => I (show (i + 1) ≤ 128 by omega : Bnd (.nat .i64) (.n 128) (i + 1)) (I (by (try simp only [List.length_append, List.length_cons, List.length_nil]) <;> omega : o.length + [l.getD i (0, (0, 0))].length = (o ++ [l.getD i (0, (0, 0))]).length) (I (by (try simp only [List.length_append, List.length_cons, List.length_nil]) <;> omega : o.length + [l.getD i (0, (0, 0))].length ≤ 256) (And.intro (⟨Ja hI.1 h3 h5, by omega⟩ : (o ++ [l.getD i (0, (0, 0))]) = qU q l (i + 1) ∧ (i + 1) ≤ l.length) (by omega : l.length - (i + 1) < l.length - i))))))) (fun (h6 : ¬ (cmpQ (dotQ q.1 (l.getD i (0, (0, 0)))) q.2 ≤ 0)) => And.intro (fun (h7 : (cmpQ (dotQ q.1 (l.getD i (0, (0, 0)))) q.2) * (cmpQ (dotQ q.1 (l.getD ((i + 1) % l.length) (0, (0, 0)))) q.2) < 0) => I (by omega : o.length = o.length) (I (show (i + 1) ≤ 128 by omega : Bnd (.nat .i64) (.n 128) (i + 1)) (I (by (try simp only [List.length_append, List.length_cons, List.length_nil]) <;> omega : o.length + [crsV q (l.getD i (0, (0, 0))) (l.getD ((i + 1) % l.length) (0, (0, 0)))].length = (o ++ [crsV q (l.getD i (0, (0, 0))) (l.getD ((i + 1) % l.length) (0, (0, 0)))]).length) (I (by (try simp only [List.length_append, List.length_cons, List.length_nil]) <;> omega : o.length + [crsV q (l.getD i (0, (0, 0))) (l.getD ((i + 1) % l.length) (0, (0, 0)))].length ≤ 256) (And.intro (⟨J9 hI.1 h6 h7, by omega⟩ : (o ++ [crsV q (l.getD i (0, (0, 0))) (l.getD ((i + 1) % l.length) (0, (0, 0)))]) = qU q l (i + 1) ∧ (i + 1) ≤ l.length) (by omega : l.length - (i + 1) < l.length - i)))))) (fun (h8 : ¬ ((cmpQ (dotQ q.1 (l.getD i (0, (0, 0)))) q.2) * (cmpQ (dotQ q.1 (l.getD ((i + 1) % l.length) (0, (0, 0)))) q.2) < 0)) => I (show (i + 1) ≤ 128 by omega : Bnd (.nat .i64) (.n 128) (i + 1)) (I (by omega : o.length = o.length) (And.intro (⟨J8 hI.1 h6 h8, by omega⟩ : o = qU q l (i + 1) ∧ (i + 1) ≤ l.length) (by omega : l.length - (i + 1) < l.length - i))))))))) (fun (h9 : ¬ (i < l.length)) => I (by omega : o.length = o.length) ((by rw [hI.1, show i = l.length by omega]; rfl : o = qH q l))))))⟩)
abbrev S0 : Ctr Tryz.prog := FI.c S2
abbrev Sp : FI := ⟨60, [(.sl (.pr .rat (.pr .rat .rat))), (.pr (.pr .rat (.pr .rat .rat)) .rat)], [(.s 128 (.p (.n 67108864) (.p (.n 67108864) (.n 67108864)))), (.p (.p (.n 16777216) (.p (.n 16777216) (.n 16777216))) (.n 16777216))], fun _ => [], fun b z => (fun (l : List (Rat × Rat × Rat)) (q : (Rat × Rat × Rat) × Rat) => .c (.one (.dt (.sl tV3) (.s (2 * (b0 b).len) (bV3 (12 * ((b1 b).mx + (b0 b).mx) + 12))) (qH q l)))) z.1 z.2⟩
theorem Sq : Sp.OK Tryz.prog := mkF hmix 53 Tryz.func60 rfl rfl (by decide) [(85, .c Py), (127, .c Sl)] (fun _ => rfl) (fun _ => rfl) (fun _ _ => rfl) (fun (l : List (Rat × Rat × Rat)) (q : (Rat × Rat × Rat) × Rat) b hx hp => qe (LG (Bnds.h2 hx).1 (Bnds.h2 hx).2) rfl) (fun (l : List (Rat × Rat × Rat)) (q : (Rat × Rat × Rat) × Rat) hx hp => by
 have hl0 : l.length ≤ 128 := hx.1.1
 exact ⟨.loop [.s 6 (.nat .i64) (.n 128), .g 5 90001 (.pr .rat (.pr .rat .rat)) (.p (.n 2147483648) (.p (.n 2147483648) (.n 2147483648))) 256] (fun ((i, o) : Nat × List (Rat × Rat × Rat)) => o = qU q l i ∧ i ≤ l.length) (fun ((i, o) : Nat × List (Rat × Rat × Rat)) => l.length - i) (fun ((i, o) : Nat × List (Rat × Rat × Rat)) => .cond (.cond (.h 8 2 (.mk (.im (.pr .rat (.pr .rat .rat)) (.p (.n 2147483648) (.p (.n 2147483648) (.n 2147483648))))) (.cond (.h 10 5 (.mk (.im (.pr .rat (.pr .rat .rat)) (.p (.n 2147483648) (.p (.n 2147483648) (.n 2147483648))))) (.nil)) (.nil))) (.cond (.h 10 5 (.mk (.im (.pr .rat (.pr .rat .rat)) (.p (.n 2147483648) (.p (.n 2147483648) (.n 2147483648))))) (.nil)) (.nil))) (.pre 999999 (.frz 90001 true [4]) (.nil))), kcast (by kernel_rfl) (I (rfl : 0 = ([] : List (Rat × Rat × Rat)).length) (I (⟨rfl, Nat.zero_le _⟩ : ([] : List (Rat × Rat × Rat)) = qU q l 0 ∧ 0 ≤ l.length) (fun (i : Nat) (o : List (Rat × Rat × Rat)) (hb1 : HB [.s 6 (.nat .i64) (.n 128), .g 5 90001 (.pr .rat (.pr .rat .rat)) (.p (.n 2147483648) (.p (.n 2147483648) (.n 2147483648))) 256] (i, o)) (hI : o = qU q l i ∧ i ≤ l.length) => have hv10 := (show i ≤ 128 from hb1.1); have hv11 := (show o.length ≤ 256 from hb1.2.1); have hIi := hI.2; have hol := (show o.length ≤ 2 * i from by rw [hI.1]; exact wr q l i); And.intro (fun (h2 : i < l.length) => I (by omega : i < l.length) (I (by omega : 0 < l.length) (I (Nat.mod_lt _ (by omega) : (i + 1) % l.length < l.length) (And.intro (fun (h3 : cmpQ (dotQ q.1 (l.getD i (0, (0, 0)))) q.2 ≤ 0) => I (by omega : o.length = o.length) (And.intro (fun (h4 : (cmpQ (dotQ q.1 (l.getD i (0, (0, 0)))) q.2) * (cmpQ (dotQ q.1 (l.getD ((i + 1) % l.length) (0, (0, 0)))) q.2) < 0) => I (by (try simp only [List.length_append, List.length_cons, List.length_nil]) <;> omega : o.length + [l.getD i (0, (0, 0))].length = (o ++ [l.getD i (0, (0, 0))]).length) (I (show (i + 1) ≤ 128 by omega : Bnd (.nat .i64) (.n 128) (i + 1)) (I (by (try simp only [List.length_append, List.length_cons, List.length_nil]) <;> omega : (o.length + [l.getD i (0, (0, 0))].length) + [crsV q (l.getD i (0, (0, 0))) (l.getD ((i + 1) % l.length) (0, (0, 0)))].length = ((o ++ [l.getD i (0, (0, 0))]) ++ [crsV q (l.getD i (0, (0, 0))) (l.getD ((i + 1) % l.length) (0, (0, 0)))]).length) (I (by (try simp only [List.length_append, List.length_cons, List.length_nil]) <;> omega : (o.length + [l.getD i (0, (0, 0))].length) + [crsV q (l.getD i (0, (0, 0))) (l.getD ((i + 1) % l.length) (0, (0, 0)))].length ≤ 256) (And.intro (⟨Jb hI.1 h3 h4, by omega⟩ : ((o ++ [l.getD i (0, (0, 0))]) ++ [crsV q (l.getD i (0, (0, 0))) (l.getD ((i + 1) % l.length) (0, (0, 0)))]) = qU q l (i + 1) ∧ (i + 1) ≤ l.length) (by omega : l.length - (i + 1) < l.length - i)))))) (fun (h5 : ¬ ((cmpQ (dotQ q.1 (l.getD i (0, (0, 0)))) q.2) * (cmpQ (dotQ q.1 (l.getD ((i + 1) % l.length) (0, (0, 0)))) q.2) < 0)) => I (show (i + 1) ≤ 128 by omega : Bnd (.nat .i64) (.n 128) (i + 1)) (I (by (try simp only [List.length_append, List.length_cons, List.length_nil]) <;> omega : o.length + [l.getD i (0, (0, 0))].length = (o ++ [l.getD i (0, (0, 0))]).length) (I (by (try simp only [List.length_append, List.length_cons, List.length_nil]) <;> omega : o.length + [l.getD i (0, (0, 0))].length ≤ 256) (And.intro (⟨Ja hI.1 h3 h5, by omega⟩ : (o ++ [l.getD i (0, (0, 0))]) = qU q l (i + 1) ∧ (i + 1) ≤ l.length) (by omega : l.length - (i + 1) < l.length - i))))))) (fun (h6 : ¬ (cmpQ (dotQ q.1 (l.getD i (0, (0, 0)))) q.2 ≤ 0)) => And.intro (fun (h7 : (cmpQ (dotQ q.1 (l.getD i (0, (0, 0)))) q.2) * (cmpQ (dotQ q.1 (l.getD ((i + 1) % l.length) (0, (0, 0)))) q.2) < 0) => I (by omega : o.length = o.length) (I (show (i + 1) ≤ 128 by omega : Bnd (.nat .i64) (.n 128) (i + 1)) (I (by (try simp only [List.length_append, List.length_cons, List.length_nil]) <;> omega : o.length + [crsV q (l.getD i (0, (0, 0))) (l.getD ((i + 1) % l.length) (0, (0, 0)))].length = (o ++ [crsV q (l.getD i (0, (0, 0))) (l.getD ((i + 1) % l.length) (0, (0, 0)))]).length) (I (by (try simp only [List.length_append, List.length_cons, List.length_nil]) <;> omega : o.length + [crsV q (l.getD i (0, (0, 0))) (l.getD ((i + 1) % l.length) (0, (0, 0)))].length ≤ 256) (And.intro (⟨J9 hI.1 h6 h7, by omega⟩ : (o ++ [crsV q (l.getD i (0, (0, 0))) (l.getD ((i + 1) % l.length) (0, (0, 0)))]) = qU q l (i + 1) ∧ (i + 1) ≤ l.length) (by omega : l.length - (i + 1) < l.length - i)))))) (fun (h8 : ¬ ((cmpQ (dotQ q.1 (l.getD i (0, (0, 0)))) q.2) * (cmpQ (dotQ q.1 (l.getD ((i + 1) % l.length) (0, (0, 0)))) q.2) < 0)) => I (show (i + 1) ≤ 128 by omega : Bnd (.nat .i64) (.n 128) (i + 1)) (I (by omega : o.length = o.length) (And.intro (⟨J8 hI.1 h6 h8, by omega⟩ : o = qU q l (i + 1) ∧ (i + 1) ≤ l.length) (by omega : l.length - (i + 1) < l.length - i))))))))) (fun (h9 : ¬ (i < l.length)) => I (by omega : o.length = o.length) ((by rw [hI.1, show i = l.length by omega]; rfl : o = qH q l))))))⟩)
abbrev So : Ctr Tryz.prog := FI.c Sq
end Go.Proofs.YtchgnllhbcadpaaGreat.Sx
