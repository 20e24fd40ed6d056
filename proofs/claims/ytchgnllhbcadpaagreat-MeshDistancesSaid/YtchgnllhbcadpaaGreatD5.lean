/-
Own laws and walks for the claim, part 5: WRef4, WRef5, WRef6, WRef7, WRef8, WYa1, WYa2, WYa3, WVa1, WVa2, WOa1, WDa2, WTd, WTd2, WTd3, WMa1, WMa2, WEx1, WEx2, WEx3, WMb1, WUq, WTe, WTe2, WMb2, WTe3, WMb3, WMc1, WEx4. No condition.
-/
import Derived.Test.YtchgnllhbcadpaaGreatD4
namespace Go.Proofs.YtchgnllhbcadpaaGreat.Sx
open Go Go.Proofs
set_option linter.unusedVariables false
set_option linter.unusedSimpArgs false
set_option maxRecDepth 20000
set_option maxHeartbeats 4000000
abbrev NU : FI := ⟨221, [.mag], [(.n 1099511627776)], fun _ => [], fun b z => (fun (x : Nat) => .tup [.one (.dt (.nat .u64) (.n 18446744073709551615) (xw x)), .one (.dt .bool .u (xk x))]) z⟩
theorem NV : NU.OK Tryz.prog := mkF hmix 26 Tryz.func221 rfl rfl (by decide) [] (fun _ => rfl) (fun _ => rfl) (fun _ _ => rfl) (fun (x : Nat) b hx hp => qF (qc (Vx x) rfl) (qF (qc trivial rfl) jv)) (fun (x : Nat) hx hp => by
 have hx0 : lt2 x 1099511627776 := hx
 have hl0 : (limbs x).length ≤ 34359738369 := qe (Nat.le_of_lt hx0)
 exact ⟨.cond (.nil) (.cond (.nil) (.cond (.h 7 9 (.i (.n (((limbs x).getD 0 0) + (((limbs x).getD 1 0) * 2 ^ 32)) 18446744073709551615)) (.nil)) (.nil))), kcast (by kernel_rfl) (And.intro (fun (h1 : (limbs x).length = 0) => And.intro (by rw [(xw_y (by omega)).1]; exact (nl0.1 (by omega)).symm : 0 = xw x) ((xw_y (by omega)).2.symm : true = xk x)) (fun (h2 : ¬ ((limbs x).length = 0)) => And.intro (fun (h3 : (limbs x).length = 1) => I (by omega : 0 < (limbs x).length) (And.intro (by rw [(xw_y (by omega)).1]; exact Jl (by omega) : (limbs x).getD 0 0 = xw x) ((xw_y (by omega)).2.symm : true = xk x))) (fun (h4 : ¬ ((limbs x).length = 1)) => And.intro (fun (h5 : (limbs x).length = 2) => I (by omega : 0 < (limbs x).length) (I (by omega : 1 < (limbs x).length) (I (DH _ 32 rfl (q8 _ _) (by have := q8 x 0; have := q8 x 1; omega) : qy .or .u64 (((limbs x).getD 0 0 : Nat) : Int) ((((limbs x).getD 1 0) * 2 ^ 32 : Nat) : Int) ((((limbs x).getD 0 0) + (((limbs x).getD 1 0) * 2 ^ 32) : Nat) : Int)) (I (by have := q8 x 0; have := q8 x 1; omega : ((limbs x).getD 0 0) + (((limbs x).getD 1 0) * 2 ^ 32) ≤ 18446744073709551615) (And.intro (by rw [(xw_y (by omega)).1]; exact LH (by omega) : ((limbs x).getD 0 0) + (((limbs x).getD 1 0) * 2 ^ 32) = xw x) ((xw_y (by omega)).2.symm : true = xk x)))))) (fun (h6 : ¬ ((limbs x).length = 2)) => And.intro ((xw_n (by omega)).1.symm : 0 = xw x) ((xw_n (by omega)).2.symm : false = xk x)))))⟩)
abbrev HW : Ctr Tryz.prog := FI.c NV
abbrev Rq : FI := ⟨223, [.mag], [(.n 1099511627776)], fun _ => [], fun b z => (fun (x : Nat) => .c (.one (.dt (.nat .i64) (b0 b) (bl x)))) z⟩
theorem Rr : Rq.OK Tryz.prog := mkF hmix 25 Tryz.func223 rfl rfl (by decide) [] (fun _ => rfl) (fun _ => rfl) (fun _ _ => rfl) (fun (x : Nat) b hx hp => qc (Ka (Bnds.h1 hx)) rfl) (fun (x : Nat) hx hp => by
 have hx0 : lt2 x 1099511627776 := hx
 have hl0 : (limbs x).length ≤ 34359738369 := qe (Nat.le_of_lt hx0)
 exact ⟨.cond (.nil) (.h 3 2 (.i .sub) (.h 4 3 (.i .sub) (.loop [.s 3 (.nat .i64) (.n 1099511627872), .s 4 (.nat .u32) (.n 4294967295)] (fun ((k, v) : Nat × Nat) => k + bl v = bl x) (fun ((k, v) : Nat × Nat) => v) (fun ((k, v) : Nat × Nat) => .nil)))), kcast (by kernel_rfl) (And.intro (fun (h1 : (limbs x).length = 0) => (by have := (nl0 (x := x)).1 (by omega); subst this; rfl : 0 = bl x)) (fun (h2 : ¬ ((limbs x).length = 0)) => have hpos := (show 0 < (limbs x).length by omega); have hBB := EI hpos; I (by omega : 1 ≤ (limbs x).length) (I (by omega : 1 ≤ (limbs x).length) (I (by omega : ((limbs x).length) - 1 < (limbs x).length) (I (hBB : (32 * (((limbs x).length) - 1)) + bl ((limbs x).getD (((limbs x).length) - 1) 0) = bl x) (fun (k : Nat) (v : Nat) (hb3 : HB [.s 3 (.nat .i64) (.n 1099511627872), .s 4 (.nat .u32) (.n 4294967295)] (k, v)) (hC : k + bl v = bl x) => have hv6 := (show k ≤ 1099511627872 from hb3.1); have hv7 := (show v ≤ 4294967295 from hb3.2); have hbx := (DJ hx0 : bl x ≤ 1099511627776); And.intro (fun (h4 : v ≠ 0) => I (show (k + 1) ≤ 1099511627872 by omega : Bnd (.nat .i64) (.n 1099511627872) (k + 1)) (And.intro (by have := Om (v := v) (by omega); omega : (k + 1) + bl (v / 2 ^ 1) = bl x) (by omega : v / 2 ^ 1 < v))) (fun (h5 : ¬ (v ≠ 0)) => (by have e : v = 0 := (by omega); rw [e, Cu] at hC; omega : k = bl x))))))))⟩)
abbrev Rp : Ctr Tryz.prog := FI.c Rr
abbrev U6 : FI := ⟨119, [.mag, .mag], [(.n 1099511627776), (.n 1099511627776)], fun _ => [], fun b z => (fun (x : Nat) (y : Nat) => .c (.one (.dt .mag (.n (max (b0 b).nb (b1 b).nb + 1)) (x + y)))) z.1 z.2⟩
theorem U7 : U6.OK Tryz.prog := mkF hmix 54 Tryz.func119 rfl rfl (by decide) [] (fun _ => rfl) (fun _ => rfl) (fun _ _ => rfl) (fun (x : Nat) (y : Nat) b hx hp => qc (CE (Bnds.h2 hx).1.mag (Bnds.h2 hx).2.mag) rfl) (fun (x : Nat) (y : Nat) hx hp => by
 have hx0 : lt2 x 1099511627776 := hx.1
 have hl0 : (limbs x).length ≤ 34359738369 := qe (Nat.le_of_lt hx0)
 have hx1 : lt2 y 1099511627776 := hx.2
 have hl1 : (limbs y).length ≤ 34359738369 := qe (Nat.le_of_lt hx1)
 exact ⟨.loop [.s 7 (.nat .i64) (.n 34359738371), .s 6 (.nat .u64) (.n 1), .g 5 90005 (.nat .u32) (.n 4294967295) 34359738371] (fun ((i, c, out) : Nat × Nat × List Nat) => AddX x y i c out) (fun ((i, c, out) : Nat × Nat × List Nat) => max (limbs x).length (limbs y).length + 1 - i) (fun ((i, c, out) : Nat × Nat × List Nat) => .cond (.cond (.cond (.h 10 3 (.mk (.im (.nat .u32) (.n 4294967295))) (.nil)) (.h 10 3 (.mk (.im (.nat .u32) (.n 4294967295))) (.nil))) (.cond (.h 10 3 (.mk (.im (.nat .u32) (.n 4294967295))) (.nil)) (.h 10 3 (.mk (.im (.nat .u32) (.n 4294967295))) (.nil)))) (.cond (.cond (.cond (.h 10 3 (.mk (.im (.nat .u32) (.n 4294967295))) (.nil)) (.h 10 3 (.mk (.im (.nat .u32) (.n 4294967295))) (.nil))) (.cond (.h 10 3 (.mk (.im (.nat .u32) (.n 4294967295))) (.nil)) (.h 10 3 (.mk (.im (.nat .u32) (.n 4294967295))) (.nil)))) (.cond (.cond (.cond (.h 10 3 (.mk (.im (.nat .u32) (.n 4294967295))) (.nil)) (.h 10 3 (.mk (.im (.nat .u32) (.n 4294967295))) (.nil))) (.cond (.h 10 3 (.mk (.im (.nat .u32) (.n 4294967295))) (.nil)) (.h 10 3 (.mk (.im (.nat .u32) (.n 4294967295))) (.nil)))) (.pre 12 (.frz 90005 true [5]) (.h 12 1 (.mag (x + y) 1099511627777) (.nil)))))), kcast (by kernel_rfl) (I (rfl : 0 = ([] : List Nat).length) (I (AddX.start x y : AddX x y 0 0 ([] : List Nat)) (fun (i : Nat) (c : Nat) (out : List Nat) (hb1 : HB [.s 7 (.nat .i64) (.n 34359738371), .s 6 (.nat .u64) (.n 1), .g 5 90005 (.nat .u32) (.n 4294967295) 34359738371] (i, c, out)) (hI : AddX x y i c out) => have hv26 := (show i ≤ 34359738371 from hb1.1); have hv27 := (show c ≤ 1 from hb1.2.1); have hv28 := (show out.length ≤ 34359738371 from hb1.2.2.1); have hIl := hI.hl; have hIi := hI.hi; have hIc := hI.hc; have hg1 := q8 x i; have hg2 := q8 y i; And.intro (fun (h2 : i < (limbs x).length) => And.intro (fun (h3 : i < (limbs x).length) => I (by omega : i < (limbs x).length) (And.intro (fun (h4 : i < (limbs y).length) => I (by omega : i < (limbs y).length) (I (by omega : out.length = out.length) (I (show (i + 1) ≤ 34359738371 by omega : Bnd (.nat .i64) (.n 34359738371) (i + 1)) (I (by (try simp only [List.length_append, List.length_cons, List.length_nil]) <;> omega : out.length + [((c + ((limbs x).getD i 0)) + ((limbs y).getD i 0)) % 4294967296].length = (out ++ [((c + ((limbs x).getD i 0)) + ((limbs y).getD i 0)) % 4294967296]).length) (I (by (try simp only [List.length_append, List.length_cons, List.length_nil]) <;> omega : out.length + [((c + ((limbs x).getD i 0)) + ((limbs y).getD i 0)) % 4294967296].length ≤ 34359738371) (And.intro (hI.step2 (by omega) (by first | rfl | (have hq1 := @qp (limbs x) i; have hq2 := @qp (limbs y) i; omega)) (by omega) : AddX x y (i + 1) (((c + ((limbs x).getD i 0)) + ((limbs y).getD i 0)) / 2 ^ 32) (out ++ [((c + ((limbs x).getD i 0)) + ((limbs y).getD i 0)) % 4294967296])) (by have := hI.le (by omega); omega : max (limbs x).length (limbs y).length + 1 - (i + 1) < max (limbs x).length (limbs y).length + 1 - i))))))) (fun (h5 : ¬ (i < (limbs y).length)) => I (by omega : out.length = out.length) (I (show (i + 1) ≤ 34359738371 by omega : Bnd (.nat .i64) (.n 34359738371) (i + 1)) (I (by (try simp only [List.length_append, List.length_cons, List.length_nil]) <;> omega : out.length + [(c + ((limbs x).getD i 0)) % 4294967296].length = (out ++ [(c + ((limbs x).getD i 0)) % 4294967296]).length) (I (by (try simp only [List.length_append, List.length_cons, List.length_nil]) <;> omega : out.length + [(c + ((limbs x).getD i 0)) % 4294967296].length ≤ 34359738371) (And.intro (hI.step2 (by omega) (by first | rfl | (have hq1 := @qp (limbs x) i; have hq2 := @qp (limbs y) i; omega)) (by omega) : AddX x y (i + 1) ((c + ((limbs x).getD i 0)) / 2 ^ 32) (out ++ [(c + ((limbs x).getD i 0)) % 4294967296])) (by have := hI.le (by omega); omega : max (limbs x).length (limbs y).length + 1 - (i + 1) < max (limbs x).length (limbs y).length + 1 - i)))))))) (fun (h6 : ¬ (i < (limbs x).length)) => And.intro (fun (h7 : i < (limbs y).length) => I (by omega : i < (limbs y).length) (I (by omega : out.length = out.length) (I (show (i + 1) ≤ 34359738371 by omega : Bnd (.nat .i64) (.n 34359738371) (i + 1)) (I (by (try simp only [List.length_append, List.length_cons, List.length_nil]) <;> omega : out.length + [(c + ((limbs y).getD i 0)) % 4294967296].length = (out ++ [(c + ((limbs y).getD i 0)) % 4294967296]).length) (I (by (try simp only [List.length_append, List.length_cons, List.length_nil]) <;> omega : out.length + [(c + ((limbs y).getD i 0)) % 4294967296].length ≤ 34359738371) (And.intro (hI.step2 (by omega) (by first | rfl | (have hq1 := @qp (limbs x) i; have hq2 := @qp (limbs y) i; omega)) (by omega) : AddX x y (i + 1) ((c + ((limbs y).getD i 0)) / 2 ^ 32) (out ++ [(c + ((limbs y).getD i 0)) % 4294967296])) (by have := hI.le (by omega); omega : max (limbs x).length (limbs y).length + 1 - (i + 1) < max (limbs x).length (limbs y).length + 1 - i))))))) (fun (h8 : ¬ (i < (limbs y).length)) => I (by omega : out.length = out.length) (I (show (i + 1) ≤ 34359738371 by omega : Bnd (.nat .i64) (.n 34359738371) (i + 1)) (I (by (try simp only [List.length_append, List.length_cons, List.length_nil]) <;> omega : out.length + [c].length = (out ++ [c]).length) (I (by (try simp only [List.length_append, List.length_cons, List.length_nil]) <;> omega : out.length + [c].length ≤ 34359738371) (And.intro (hI.step2 (by omega) (by first | rfl | (have hq1 := @qp (limbs x) i; have hq2 := @qp (limbs y) i; omega)) (by omega) : AddX x y (i + 1) (c / 2 ^ 32) (out ++ [c])) (by have := hI.le (by omega); omega : max (limbs x).length (limbs y).length + 1 - (i + 1) < max (limbs x).length (limbs y).length + 1 - i)))))))) (fun (h9 : ¬ (i < (limbs x).length)) => And.intro (fun (h10 : i < (limbs y).length) => And.intro (fun (h11 : i < (limbs x).length) => I (by omega : i < (limbs x).length) (And.intro (fun (h12 : i < (limbs y).length) => I (by omega : i < (limbs y).length) (I (by omega : out.length = out.length) (I (show (i + 1) ≤ 34359738371 by omega : Bnd (.nat .i64) (.n 34359738371) (i + 1)) (I (by (try simp only [List.length_append, List.length_cons, List.length_nil]) <;> omega : out.length + [((c + ((limbs x).getD i 0)) + ((limbs y).getD i 0)) % 4294967296].length = (out ++ [((c + ((limbs x).getD i 0)) + ((limbs y).getD i 0)) % 4294967296]).length) (I (by (try simp only [List.length_append, List.length_cons, List.length_nil]) <;> omega : out.length + [((c + ((limbs x).getD i 0)) + ((limbs y).getD i 0)) % 4294967296].length ≤ 34359738371) (And.intro (hI.step2 (by omega) (by first | rfl | (have hq1 := @qp (limbs x) i; have hq2 := @qp (limbs y) i; omega)) (by omega) : AddX x y (i + 1) (((c + ((limbs x).getD i 0)) + ((limbs y).getD i 0)) / 2 ^ 32) (out ++ [((c + ((limbs x).getD i 0)) + ((limbs y).getD i 0)) % 4294967296])) (by have := hI.le (by omega); omega : max (limbs x).length (limbs y).length + 1 - (i + 1) < max (limbs x).length (limbs y).length + 1 - i))))))) (fun (h13 : ¬ (i < (limbs y).length)) => I (by omega : out.length = out.length) (I (show (i + 1) ≤ 34359738371 by omega : Bnd (.nat .i64) (.n 34359738371) (i + 1)) (I (by (try simp only [List.length_append, List.length_cons, List.length_nil]) <;> omega : out.length + [(c + ((limbs x).getD i 0)) % 4294967296].length = (out ++ [(c + ((limbs x).getD i 0)) % 4294967296]).length) (I (by (try simp only [List.length_append, List.length_cons, List.length_nil]) <;> omega : out.length + [(c + ((limbs x).getD i 0)) % 4294967296].length ≤ 34359738371) (And.intro (hI.step2 (by omega) (by first | rfl | (have hq1 := @qp (limbs x) i; have hq2 := @qp (limbs y) i; omega)) (by omega) : AddX x y (i + 1) ((c + ((limbs x).getD i 0)) / 2 ^ 32) (out ++ [(c + ((limbs x).getD i 0)) % 4294967296])) (by have := hI.le (by omega); omega : max (limbs x).length (limbs y).length + 1 - (i + 1) < max (limbs x).length (limbs y).length + 1 - i)))))))) (fun (h14 : ¬ (i < (limbs x).length)) => And.intro (fun (h15 : i < (limbs y).length) => I (by omega : i < (limbs y).length) (I (by omega : out.length = out.length) (I (show (i + 1) ≤ 34359738371 by omega : Bnd (.nat .i64) (.n 34359738371) (i + 1)) (I (by (try simp only [List.length_append, List.length_cons, List.length_nil]) <;> omega : out.length + [(c + ((limbs y).getD i 0)) % 4294967296].length = (out ++ [(c + ((limbs y).getD i 0)) % 4294967296]).length) (I (by (try simp only [List.length_append, List.length_cons, List.length_nil]) <;> omega : out.length + [(c + ((limbs y).getD i 0)) % 4294967296].length ≤ 34359738371) (And.intro (hI.step2 (by omega) (by first | rfl | (have hq1 := @qp (limbs x) i; have hq2 := @qp (limbs y) i; omega)) (by omega) : AddX x y (i + 1) ((c + ((limbs y).getD i 0)) / 2 ^ 32) (out ++ [(c + ((limbs y).getD i 0)) % 4294967296])) (by have := hI.le (by omega); omega : max (limbs x).length (limbs y).length + 1 - (i + 1) < max (limbs x).length (limbs y).length + 1 - i))))))) (fun (h16 : ¬ (i < (limbs y).length)) => I (by omega : out.length = out.length) (I (show (i + 1) ≤ 34359738371 by omega : Bnd (.nat .i64) (.n 34359738371) (i + 1)) (I (by (try simp only [List.length_append, List.length_cons, List.length_nil]) <;> omega : out.length + [c].length = (out ++ [c]).length) (I (by (try simp only [List.length_append, List.length_cons, List.length_nil]) <;> omega : out.length + [c].length ≤ 34359738371) (And.intro (hI.step2 (by omega) (by first | rfl | (have hq1 := @qp (limbs x) i; have hq2 := @qp (limbs y) i; omega)) (by omega) : AddX x y (i + 1) (c / 2 ^ 32) (out ++ [c])) (by have := hI.le (by omega); omega : max (limbs x).length (limbs y).length + 1 - (i + 1) < max (limbs x).length (limbs y).length + 1 - i)))))))) (fun (h17 : ¬ (i < (limbs y).length)) => And.intro (fun (h18 : c ≠ 0) => And.intro (fun (h19 : i < (limbs x).length) => I (by omega : i < (limbs x).length) (And.intro (fun (h20 : i < (limbs y).length) => I (by omega : i < (limbs y).length) (I (by omega : out.length = out.length) (I (show (i + 1) ≤ 34359738371 by omega : Bnd (.nat .i64) (.n 34359738371) (i + 1)) (I (by (try simp only [List.length_append, List.length_cons, List.length_nil]) <;> omega : out.length + [((c + ((limbs x).getD i 0)) + ((limbs y).getD i 0)) % 4294967296].length = (out ++ [((c + ((limbs x).getD i 0)) + ((limbs y).getD i 0)) % 4294967296]).length) (I (by (try simp only [List.length_append, List.length_cons, List.length_nil]) <;> omega : out.length + [((c + ((limbs x).getD i 0)) + ((limbs y).getD i 0)) % 4294967296].length ≤ 34359738371) (And.intro (hI.step2 (by omega) (by first | rfl | (have hq1 := @qp (limbs x) i; have hq2 := @qp (limbs y) i; omega)) (by omega) : AddX x y (i + 1) (((c + ((limbs x).getD i 0)) + ((limbs y).getD i 0)) / 2 ^ 32) (out ++ [((c + ((limbs x).getD i 0)) + ((limbs y).getD i 0)) % 4294967296])) (by have := hI.le (by omega); omega : max (limbs x).length (limbs y).length + 1 - (i + 1) < max (limbs x).length (limbs y).length + 1 - i))))))) (fun (h21 : ¬ (i < (limbs y).length)) => I (by omega : out.length = out.length) (I (show (i + 1) ≤ 34359738371 by omega : Bnd (.nat .i64) (.n 34359738371) (i + 1)) (I (by (try simp only [List.length_append, List.length_cons, List.length_nil]) <;> omega : out.length + [(c + ((limbs x).getD i 0)) % 4294967296].length = (out ++ [(c + ((limbs x).getD i 0)) % 4294967296]).length) (I (by (try simp only [List.length_append, List.length_cons, List.length_nil]) <;> omega : out.length + [(c + ((limbs x).getD i 0)) % 4294967296].length ≤ 34359738371) (And.intro (hI.step2 (by omega) (by first | rfl | (have hq1 := @qp (limbs x) i; have hq2 := @qp (limbs y) i; omega)) (by omega) : AddX x y (i + 1) ((c + ((limbs x).getD i 0)) / 2 ^ 32) (out ++ [(c + ((limbs x).getD i 0)) % 4294967296])) (by have := hI.le (by omega); omega : max (limbs x).length (limbs y).length + 1 - (i + 1) < max (limbs x).length (limbs y).length + 1 - i)))))))) (fun (h22 : ¬ (i < (limbs x).length)) => And.intro (fun (h23 : i < (limbs y).length) => I (by omega : i < (limbs y).length) (I (by omega : out.length = out.length) (I (show (i + 1) ≤ 34359738371 by omega : Bnd (.nat .i64) (.n 34359738371) (i + 1)) (I (by (try simp only [List.length_append, List.length_cons, List.length_nil]) <;> omega : out.length + [(c + ((limbs y).getD i 0)) % 4294967296].length = (out ++ [(c + ((limbs y).getD i 0)) % 4294967296]).length) (I (by (try simp only [List.length_append, List.length_cons, List.length_nil]) <;> omega : out.length + [(c + ((limbs y).getD i 0)) % 4294967296].length ≤ 34359738371) (And.intro (hI.step2 (by omega) (by first | rfl | (have hq1 := @qp (limbs x) i; have hq2 := @qp (limbs y) i; omega)) (by omega) : AddX x y (i + 1) ((c + ((limbs y).getD i 0)) / 2 ^ 32) (out ++ [(c + ((limbs y).getD i 0)) % 4294967296])) (by have := hI.le (by omega); omega : max (limbs x).length (limbs y).length + 1 - (i + 1) < max (limbs x).length (limbs y).length + 1 - i))))))) (fun (h24 : ¬ (i < (limbs y).length)) => I (by omega : out.length = out.length) (I (show (i + 1) ≤ 34359738371 by omega : Bnd (.nat .i64) (.n 34359738371) (i + 1)) (I (by (try simp only [List.length_append, List.length_cons, List.length_nil]) <;> omega : out.length + [c].length = (out ++ [c]).length) (I (by (try simp only [List.length_append, List.length_cons, List.length_nil]) <;> omega : out.length + [c].length ≤ 34359738371) (And.intro (hI.step2 (by omega) (by first | rfl | (have hq1 := @qp (limbs x) i; have hq2 := @qp (limbs y) i; omega)) (by omega) : AddX x y (i + 1) (c / 2 ^ 32) (out ++ [c])) (by have := hI.le (by omega); omega : max (limbs x).length (limbs y).length + 1 - (i + 1) < max (limbs x).length (limbs y).length + 1 - i)))))))) (fun (h25 : ¬ (c ≠ 0)) => I (by omega : out.length = out.length) (I (hI.fin (by omega) (by omega) (by omega) : out = limbs (x + y)) (I (qa (by decide) (CE hx0 hx1) : lt2 (x + y) 1099511627777) ((Eq.refl (x + y)))))))))))⟩)
abbrev U5 : Ctr Tryz.prog := FI.c U7
abbrev K4 : FO := ⟨225, [.mag, (.nat .i64)], [(.n 1099511627776), (.n 17179869184)], fun _ => [], fun k b z => (fun (x : Nat) (j : Nat) => .c (.one (.gs k ((limbs (x * 4294967296 ^ j)).length) 1 (((b0 b).nb + 32 * (b1 b).nb) / 32 + 1)))) z.1 z.2, fun b z => (fun (x : Nat) (j : Nat) => .gro (.nat .u32) (.n 4294967295) (limbs (x * 4294967296 ^ j))) z.1 z.2⟩
theorem K5 : K4.OK Tryz.prog := mkO hmix 12 11 Tryz.func225 rfl rfl (by decide) [] (fun _ => rfl) (fun _ _ _ => rfl) (fun _ _ => rfl) (fun _ _ _ => ⟨rfl, rfl⟩) (fun (x : Nat) (j : Nat) k b hx hp => ⟨qc (qe (Nat.le_of_lt (FJ (Bnds.h2 hx).1.mag (Bnds.h2 hx).2.nat))) rfl, fun u hu => Nat.le_of_lt_succ (qO _ u hu)⟩) (fun (x : Nat) (j : Nat) hx hp => by
 have hx0 : lt2 x 1099511627776 := hx.1
 have hl0 : (limbs x).length ≤ 34359738369 := qe (Nat.le_of_lt hx0)
 have hx1 : j ≤ 17179869184 := hx.2
 exact bodyO.g (.cond (.nil) (.h 3 1 (.mk (.gro (.nat .u32) (.n 4294967295))) (.nil))) (kcast (by kernel_rfl) (And.intro (fun (h1 : (limbs x).length = 0) => And.intro (by rw [nl0.1 (show (limbs x).length = 0 by assumption), Nat.zero_mul]; rfl : ([] : List Nat) = limbs (x * 4294967296 ^ j)) ((by rw [nl0.1 (show (limbs x).length = 0 by assumption), Nat.zero_mul]; rfl : 0 = (limbs (x * 4294967296 ^ j)).length))) (fun (h2 : ¬ ((limbs x).length = 0)) => I (by omega : j = j) (I ((List.length_replicate ..).symm : j = (List.replicate j (0 : Nat)).length) (And.intro (D9 (mt nl0.2 (by assumption)) : (List.replicate j (0 : Nat)) ++ (limbs x) = limbs (x * 4294967296 ^ j)) ((by rw [← D9 (mt nl0.2 (by assumption))]; simp : j + (limbs x).length = (limbs (x * 4294967296 ^ j)).length))))))))
abbrev K3 (k : Nat) (b : List Bd) (x : Nat) (j : Nat) : WV := .c (.one (.gs k ((limbs (x * 4294967296 ^ j)).length) 1 (((b0 b).nb + 32 * (b1 b).nb) / 32 + 1)))
abbrev K2 (b : List Bd) (x : Nat) (j : Nat) : WB := .gro (.nat .u32) (.n 4294967295) (limbs (x * 4294967296 ^ j))
theorem HV (d : Nat) (x : Nat) (j : Nat) (hx : Bnds [.mag, (.nat .i64)] [(.n 1099511627776), (.n 17179869184)] (x, j)) (hp : ∀ c0 ∈ ([] : List Prop), c0) : SigG Tryz.prog 225 (argsE [.mag, (.nat .i64)] (x, j)) [] (K3 d [(.n 1099511627776), (.n 17179869184)] x j).exp [(d, some (K2 [(.n 1099511627776), (.n 17179869184)] x j).exp)] := K5.sig d (x, j) hx hp
abbrev IW (b : Bd) (x k : Nat) : WV := .c (.one (.dt .mag b (x * 4294967296 ^ k)))
theorem Ib (x k : Nat) (hx : Bnds [.mag, .nat .i64] [.n 1099511627776, .n 17179869184] (x, k)) (b : Bd) : Sig Tryz.prog 225 (argsE [.mag, .nat .i64] (x, k)) (IW b x k).exp := by
 have h := frzO (HV 0 x k hx (by intro p hp; cases hp)) (by decide) rfl .u
 rw [magE (x * 4294967296 ^ k) .u b] at h; exact h
theorem Ma (x : Nat) (z : Int) (h : 0 ≤ z) : argsE [.mag, .int .i64] (x, z) = argsE [.mag, .nat .i64] (x, z.toNat) := by
 obtain ⟨n, rfl⟩ := Int.eq_ofNat_of_zero_le h; rfl
def vo : Ctr Tryz.prog := ⟨225, [.mag, .int .i64], [.n 1099511627776, .n 17179869184], fun z => [0 ≤ z.2], fun b z => IW (.n ((b0 b).nb + 32 * (b1 b).nb)) z.1 z.2.toNat,
 fun z hx hp => by
  have h0 : 0 ≤ z.2 := hp _ List.mem_cons_self
  have h := Ib z.1 z.2.toNat ⟨hx.1, by have h2 : Int.natAbs z.2 ≤ 17179869184 := hx.2; show z.2.toNat ≤ _; omega⟩ (.n (1099511627776 + 32 * 17179869184))
  rw [← Ma z.1 z.2 h0] at h; exact h,
 fun _ _ => rfl, fun b z hx hp => qc (FJ (Bnds.h2 hx).1.mag (by have h2 := (Bnds.h2 hx).2.int; show z.2.toNat ≤ _; omega)) rfl⟩
abbrev Vv : FI := ⟨224, [.mag, (.nat .i64)], [(.n 1030792151040), (.n 68719476736)], fun _ => [], fun b z => (fun (x : Nat) (s : Nat) => .c (.one (.dt .mag (.n ((b0 b).nb + (b1 b).nb)) (x * 2 ^ s)))) z.1 z.2⟩
theorem Vw : Vv.OK Tryz.prog := mkF hmix 40 Tryz.func224 rfl rfl (by decide) [] (fun _ => rfl) (fun _ => rfl) (fun _ _ => rfl) (fun (x : Nat) (s : Nat) b hx hp => qc (SB (Bnds.h2 hx).1.mag (Bnds.h2 hx).2.nat) rfl) (fun (x : Nat) (s : Nat) hx hp => by
 have hx0 : lt2 x 1030792151040 := hx.1
 have hl0 : (limbs x).length ≤ 32212254721 := qe (Nat.le_of_lt hx0)
 have hx1 : s ≤ 68719476736 := hx.2
 exact ⟨.h 1 2 (.mk (.gro (.nat .u32) (.n 4294967295))) (.loop [.s 7 (.nat .i64) (.n 32212254721), .s 6 (.nat .u64) (.n 4294967295), .g 5 90005 (.nat .u32) (.n 4294967295) 100931731457] (fun ((i, c, out) : Nat × Nat × List Nat) => UpX x s i c out) (fun ((i, c, out) : Nat × Nat × List Nat) => (limbs x).length - i) (fun ((i, c, out) : Nat × Nat × List Nat) => .cond (.h 6 8 (.i (.n (((limbs x).getD i 0) * 2 ^ (s % 32)) 18446744073709551615)) (.h 6 9 (.i (.n (c + (((limbs x).getD i 0) * 2 ^ (s % 32))) 18446744073709551615)) (.h 7 3 (.mk (.im (.nat .u32) (.n 4294967295))) (.nil)))) (.h 9 3 (.mk (.im (.nat .u32) (.n 4294967295))) (.pre 1009005 (.frz 38 true [38]) (.h 9 5 (.c zN) (.nil)))))), kcast (by kernel_rfl) (I (by omega : s / 32 = s / 32) (I (by simp <;> omega : s / 32 = (List.replicate (s / 32) (0 : Nat)).length) (I (UpX.start x s : UpX x s 0 0 (List.replicate (s / 32) (0 : Nat))) (fun (i : Nat) (c : Nat) (out : List Nat) (hb1 : HB [.s 7 (.nat .i64) (.n 32212254721), .s 6 (.nat .u64) (.n 4294967295), .g 5 90005 (.nat .u32) (.n 4294967295) 100931731457] (i, c, out)) (hI : UpX x s i c out) => have hv4 := (show i ≤ 32212254721 from hb1.1); have hv5 := (show c ≤ 4294967295 from hb1.2.1); have hv6 := (show out.length ≤ 100931731457 from hb1.2.2.1); have hIl := hI.hl; have hIi := hI.hi; have hIc := hI.hc; have hg1 := q8 x i; have hbd := Vr hI; And.intro (fun (h2 : i < (limbs x).length) => I (by omega : i < (limbs x).length) (I (DI _ _ (by omega) (Ae hg1 (by omega)) : qy .shl .u64 (((limbs x).getD i 0 : Nat) : Int) ((s % 32 : Nat) : Int) ((((limbs x).getD i 0) * 2 ^ (s % 32) : Nat) : Int)) (I (Nat.le_of_lt_succ (Ae hg1 (by omega)) : ((limbs x).getD i 0) * 2 ^ (s % 32) ≤ 18446744073709551615) (I (DH _ _ rfl hIc hbd : qy .or .u64 (c : Int) ((((limbs x).getD i 0) * 2 ^ (s % 32) : Nat) : Int) ((c + (((limbs x).getD i 0) * 2 ^ (s % 32)) : Nat) : Int)) (I (Nat.le_of_lt_succ hbd : c + (((limbs x).getD i 0) * 2 ^ (s % 32)) ≤ 18446744073709551615) (I (by omega : out.length = out.length) (I (show (i + 1) ≤ 32212254721 by omega : Bnd (.nat .i64) (.n 32212254721) (i + 1)) (I (by (try simp only [List.length_append, List.length_cons, List.length_nil]) <;> omega : out.length + [(c + (((limbs x).getD i 0) * 2 ^ (s % 32))) % 4294967296].length = (out ++ [(c + (((limbs x).getD i 0) * 2 ^ (s % 32))) % 4294967296]).length) (I (by (try simp only [List.length_append, List.length_cons, List.length_nil]) <;> omega : out.length + [(c + (((limbs x).getD i 0) * 2 ^ (s % 32))) % 4294967296].length ≤ 100931731457) (And.intro (hI.step (by omega) rfl : UpX x s (i + 1) ((c + (((limbs x).getD i 0) * 2 ^ (s % 32))) / 2 ^ 32) (out ++ [(c + (((limbs x).getD i 0) * 2 ^ (s % 32))) % 4294967296])) (by omega : (limbs x).length - (i + 1) < (limbs x).length - i))))))))))) (fun (h3 : ¬ (i < (limbs x).length)) => have hF := hI.fin (by omega); I (by omega : out.length = out.length) (I (by (try simp only [List.length_append, List.length_cons, List.length_nil]) <;> omega : out.length + [c].length = (out ++ [c]).length) (I (hF.2 : ∀ u ∈ out ++ [c], u < 4294967296) ((hF.1 : valL (out ++ [c]) = x * 2 ^ s)))))))))⟩)
abbrev Vu : Ctr Tryz.prog := FI.c Vw
abbrev Rt : FI := ⟨227, [.mag, (.nat .i64)], [(.n 1099511627776), (.n 1099511627776)], fun _ => [], fun b z => (fun (x : Nat) (s : Nat) => .c (.one (.dt .mag (.n ((b0 b).nb)) (x / 2 ^ s)))) z.1 z.2⟩
theorem Ru : Rt.OK Tryz.prog := mkF hmix 55 Tryz.func227 rfl rfl (by decide) [] (fun _ => rfl) (fun _ => rfl) (fun _ _ => rfl) (fun (x : Nat) (s : Nat) b hx hp => qc ((Bnds.h2 hx).1.magLe (Nat.div_le_self _ _)).mag rfl) (fun (x : Nat) (s : Nat) hx hp => by
 have hx0 : lt2 x 1099511627776 := hx.1
 have hl0 : (limbs x).length ≤ 34359738369 := qe (Nat.le_of_lt hx0)
 have hx1 : s ≤ 1099511627776 := hx.2
 exact ⟨.cond (.nil) ((fun (w : Nat) => .h 3 3 (.mag w 1099511627776) (.h 4 2 (.mk (.arr (.nat .u32) (.n 4294967295))) (.loop [.s 6 (.nat .i64) (.n 34359738369), .a 19 (.nat .u32) (.n 4294967295)] (fun ((i, out) : Nat × List Nat) => DownX w (s % 32) i out) (fun ((i, out) : Nat × List Nat) => (limbs w).length - i) (fun ((i, out) : Nat × List Nat) => .cond (.cond (.h 10 8 (.i (.n (((limbs w).getD i 0) + (((limbs w).getD (i + 1) 0) * 2 ^ 32)) 18446744073709551615)) (.h 11 5 (.i (.n ((((limbs w).getD i 0) + (((limbs w).getD (i + 1) 0) * 2 ^ 32)) / 2 ^ (s % 32)) 18446744073709551615)) (.nil))) (.h 11 5 (.i (.n (((limbs w).getD i 0) / 2 ^ (s % 32)) 18446744073709551615)) (.nil))) (.pre 12 (.frz 19 true [5]) (.h 12 1 (.c zN) (.nil))))))) (x / 4294967296 ^ (s / 32))), kcast (by kernel_rfl) (And.intro (fun (h1 : (limbs x).length ≤ s / 32) => (Kn (by omega) : 0 = x / 2 ^ s)) (fun (h2 : ¬ ((limbs x).length ≤ s / 32)) => (fun (w : Nat) (hw : w = x / 4294967296 ^ (s / 32)) => I (by omega : s / 32 ≤ (limbs x).length) (I (by rw [hw]; exact B9 _ _ : (limbs x).drop (s / 32) = limbs w) (I (by rw [hw]; exact wL hx0 (Nat.div_le_self _ _) : lt2 w 1099511627776) (have hlw := (qe (Nat.le_of_lt (show lt2 w 1099511627776 by rw [hw]; exact wL hx0 (Nat.div_le_self _ _))) : (limbs w).length ≤ 34359738369); I (by omega : (limbs w).length = (limbs w).length) (I (DownX.start w (s % 32) : DownX w (s % 32) 0 (List.replicate ((limbs w).length) (0 : Nat))) (fun (i : Nat) (out : List Nat) (hb3 : HB [.s 6 (.nat .i64) (.n 34359738369), .a 19 (.nat .u32) (.n 4294967295)] (i, out)) (hI : DownX w (s % 32) i out) => have hv8 := (show i ≤ 34359738369 from hb3.1); have hv9 := (show ∀ u ∈ out, u ≤ 4294967295 from hb3.2); have hIl := hI.hl; have hIi := hI.hi; have hg1 := q8 w i; have hg2 := q8 w (i + 1); And.intro (fun (h4 : i < (limbs w).length) => I (by omega : i < (limbs w).length) (And.intro (fun (h5 : i + 1 < (limbs w).length) => I (by omega : i + 1 < (limbs w).length) (I (DH _ 32 rfl hg1 (by omega) : qy .or .u64 (((limbs w).getD i 0 : Nat) : Int) ((((limbs w).getD (i + 1) 0) * 2 ^ 32 : Nat) : Int) ((((limbs w).getD i 0) + (((limbs w).getD (i + 1) 0) * 2 ^ 32) : Nat) : Int)) (I (by omega : ((limbs w).getD i 0) + (((limbs w).getD (i + 1) 0) * 2 ^ 32) ≤ 18446744073709551615) (I (Gu _ _ (by simp [IntKind.bits]; omega) : qy .shr .u64 ((((limbs w).getD i 0) + (((limbs w).getD (i + 1) 0) * 2 ^ 32) : Nat) : Int) ((s % 32 : Nat) : Int) (((((limbs w).getD i 0) + (((limbs w).getD (i + 1) 0) * 2 ^ 32)) / 2 ^ (s % 32) : Nat) : Int)) (I (Nat.le_trans (Nat.div_le_self _ _) (by omega) : (((limbs w).getD i 0) + (((limbs w).getD (i + 1) 0) * 2 ^ 32)) / 2 ^ (s % 32) ≤ 18446744073709551615) (I (by omega : i < (limbs w).length) (I (by omega : i < out.length) (I (show (i + 1) ≤ 34359738369 by omega : Bnd (.nat .i64) (.n 34359738369) (i + 1)) (And.intro (hI.step (by omega) (by omega) (by first | rfl | (have hq1 := @qp (limbs w) (i + 1); omega)) : DownX w (s % 32) (i + 1) (out.set i (((((limbs w).getD i 0) + (((limbs w).getD (i + 1) 0) * 2 ^ 32)) / 2 ^ (s % 32)) % 4294967296))) (by omega : (limbs w).length - (i + 1) < (limbs w).length - i)))))))))) (fun (h6 : ¬ (i + 1 < (limbs w).length)) => I (Gu _ _ (by simp [IntKind.bits]; omega) : qy .shr .u64 (((limbs w).getD i 0 : Nat) : Int) ((s % 32 : Nat) : Int) ((((limbs w).getD i 0) / 2 ^ (s % 32) : Nat) : Int)) (I (Nat.le_trans (Nat.div_le_self _ _) (by omega) : ((limbs w).getD i 0) / 2 ^ (s % 32) ≤ 18446744073709551615) (I (by omega : i < (limbs w).length) (I (by omega : i < out.length) (I (show (i + 1) ≤ 34359738369 by omega : Bnd (.nat .i64) (.n 34359738369) (i + 1)) (And.intro (hI.step (by omega) (by omega) (by first | rfl | (have hq1 := @qp (limbs w) (i + 1); omega)) : DownX w (s % 32) (i + 1) (out.set i ((((limbs w).getD i 0) / 2 ^ (s % 32)) % 4294967296))) (by omega : (limbs w).length - (i + 1) < (limbs w).length - i))))))))) (fun (h7 : ¬ (i < (limbs w).length)) => I (by omega : (limbs w).length = out.length) (have hF := hI.fin (by omega); I (hI.hu : ∀ u ∈ out, u < 4294967296) ((by rw [hF, hw]; exact GF x s : valL out = x / 2 ^ s)))))))))) (x / 4294967296 ^ (s / 32)) rfl))⟩)
abbrev Rs : Ctr Tryz.prog := FI.c Ru
abbrev Ua : FI := ⟨149, [.mag, .mag], [(.n 137438953536), (.n 137438953536)], fun z => (fun (x : Nat) (y : Nat) => [0 < y]) z.1 z.2, fun b z => (fun (x : Nat) (y : Nat) => .tup [.one (.dt .mag (b0 b) (x / y)), .one (.dt .mag (b1 b) (x % y)), .one (.kn .i64 0)]) z.1 z.2⟩
theorem Ub : Ua.OK Tryz.prog := mkF hmix 163 Tryz.func149 rfl rfl (by decide) [(82, .c Cp), (147, .c Fi), (150, .c Gl), (193, .c HU), (221, .c HW), (222, .c LY), (223, .c Rp), (224, .c Vu), (226, .c NW), (227, .c Rs)] (fun _ => rfl) (fun _ => rfl) (fun _ _ => rfl) (fun (x : Nat) (y : Nat) b hx hp => qF (qc ((Bnds.h2 hx).1.magLe (Nat.div_le_self _ _)) rfl) (qF (qc ((Bnds.h2 hx).2.magLe (Nat.le_of_lt (Nat.mod_lt _ (hp _ (List.mem_cons_self))))) rfl) (qF O8 jv))) (fun (x : Nat) (y : Nat) hx hp => by
 have hx0 : lt2 x 137438953536 := hx.1
 have hl0 : (limbs x).length ≤ 4294967299 := qe (Nat.le_of_lt hx0)
 have hx1 : lt2 y 137438953536 := hx.2
 have hl1 : (limbs y).length ≤ 4294967299 := qe (Nat.le_of_lt hx1)
 have hp0 : 0 < y := hp _ (List.mem_cons_self)
 have hyp := mt (nl0 (x := y)).1 (show ¬ y = 0 by omega)
 exact ⟨.cond (.dead) (.cond (.nil) (.cond (.nil) (.cond (.nil) (.h 12 3 (.i .sub) (.h 12 4 (.mag (y / 4294967296 ^ ((limbs y).length - 1)) 32) (.h 12 6 (.i .sub) ((fun (s : Nat) => .h 15 3 (.i .sub) ((fun (L : Nat) => .h 15 5 (.mk (.arr (.nat .u32) (.n 4294967295))) (.loop [.s 15 (.int .i64) (.n 17179869184), .s 5 .mag (.n 137438953568), .a 82 (.nat .u32) (.n 4294967295)] (fun ((z, r, ql) : Int × Nat × List Nat) => DX (x * 2 ^ s) (y * 2 ^ s) L z ql r) (fun ((z, r, ql) : Int × Nat × List Nat) => (z + 1).toNat) (fun ((z, r, ql) : Int × Nat × List Nat) => .cond (.cond (.h 21 4 (.ix (z.toNat + (limbs (y * 2 ^ s)).length)) (.cond (.h 23 7 (.ix (z.toNat + (limbs (y * 2 ^ s)).length - 1)) (.h 23 10 (.i (.n ((((limbs r).getD (z.toNat + (limbs (y * 2 ^ s)).length) 0) * 2 ^ 32) + ((limbs r).getD (z.toNat + (limbs (y * 2 ^ s)).length - 1) 0)) 18446744073709551615)) (.h 25 3 (.i .sub) (.h 26 5 (.c vo) (.loop [.s 17 (.nat .u64) (.n 4294967295), .s 18 .mag (.n 1099511627776)] (fun ((d, p) : Nat × Nat) => EX (y * 2 ^ s) z.toNat r d p) (fun ((d, p) : Nat × Nat) => d) (fun ((d, p) : Nat × Nat) => .cond (.h 28 1 (.i .sub) (.h 29 3 (.c vo) (.nil))) (.h 30 4 (.ix z.toNat) (.nil)))))))) (.h 25 3 (.i .sub) (.h 26 5 (.c vo) (.loop [.s 17 (.nat .u64) (.n 4294967295), .s 18 .mag (.n 1099511627776)] (fun ((d, p) : Nat × Nat) => EX (y * 2 ^ s) z.toNat r d p) (fun ((d, p) : Nat × Nat) => d) (fun ((d, p) : Nat × Nat) => .cond (.h 28 1 (.i .sub) (.h 29 3 (.c vo) (.nil))) (.h 30 4 (.ix z.toNat) (.nil)))))))) (.cond (.h 23 7 (.ix (z.toNat + (limbs (y * 2 ^ s)).length - 1)) (.h 23 10 (.i (.n (0 + ((limbs r).getD (z.toNat + (limbs (y * 2 ^ s)).length - 1) 0)) 18446744073709551615)) (.h 25 3 (.i .sub) (.h 26 5 (.c vo) (.loop [.s 17 (.nat .u64) (.n 4294967295), .s 18 .mag (.n 1099511627776)] (fun ((d, p) : Nat × Nat) => EX (y * 2 ^ s) z.toNat r d p) (fun ((d, p) : Nat × Nat) => d) (fun ((d, p) : Nat × Nat) => .cond (.h 28 1 (.i .sub) (.h 29 3 (.c vo) (.nil))) (.h 30 4 (.ix z.toNat) (.nil)))))))) (.h 25 3 (.i .sub) (.h 26 5 (.c vo) (.loop [.s 17 (.nat .u64) (.n 4294967295), .s 18 .mag (.n 1099511627776)] (fun ((d, p) : Nat × Nat) => EX (y * 2 ^ s) z.toNat r d p) (fun ((d, p) : Nat × Nat) => d) (fun ((d, p) : Nat × Nat) => .cond (.h 28 1 (.i .sub) (.h 29 3 (.c vo) (.nil))) (.h 30 4 (.ix z.toNat) (.nil)))))))) (.pre 32 (.frz 82 true [4]) (.h 32 1 (.c zN) (.nil)))))) ((((limbs (x * 2 ^ s)).length) - ((limbs (y * 2 ^ s)).length)) + 1))) (32 - (bl (y / 4294967296 ^ ((limbs y).length - 1))))))))))), kcast (by kernel_rfl) (And.intro (fun (h1 : (limbs y).length = 0) => (absurd (nl0.1 h1) (by omega) : False)) (fun (h2 : ¬ ((limbs y).length = 0)) => And.intro (fun (h3 : cmpN x y < 0) => And.intro ((Nat.div_eq_of_lt (jd.1 (by omega))).symm : 0 = x / y) ((Nat.mod_eq_of_lt (jd.1 (by omega))).symm : x = x % y)) (fun (h4 : ¬ (cmpN x y < 0)) => have hyx := (show y ≤ x from Nat.le_of_not_lt (mt jd.2 (by assumption))); have hly := jH hyx; And.intro (fun (h5 : xk x = true) => have hlx := (show (limbs x).length ≤ 2 from of_decide_eq_true (by assumption)); have hxx := (xw_y hlx).1; have hxy := (xw_y (x := y) (by omega)).1; I (by omega : 0 < xw y) (I (by omega : 0 < xw y) (And.intro (by rw [(xw_y (x := x) (by assumption)).1, (xw_y (x := y) (by omega)).1] : (xw x) / (xw y) = x / y) (by rw [(xw_y (x := x) (by assumption)).1, (xw_y (x := y) (by omega)).1] : (xw x) % (xw y) = x % y)))) (fun (h6 : ¬ (xk x = true)) => And.intro (fun (h7 : (limbs y).length = 1) => have hy1 := (show (limbs y).getD 0 0 = y from Jl (by omega)); I (by omega : 0 < (limbs y).length) (I (by omega : 0 < (limbs y).getD 0 0) (And.intro (by rw [hy1] : x / ((limbs y).getD 0 0) = x / y) (by rw [hy1] : x % ((limbs y).getD 0 0) = x % y)))) (fun (h8 : ¬ ((limbs y).length = 1)) => have hb32 := (DJ ES : bl (y / 4294967296 ^ ((limbs y).length - 1)) ≤ 32); I (by omega : 1 ≤ (limbs y).length) (I (by omega : ((limbs y).length) - 1 ≤ (limbs y).length) (I (B9 _ _ : (limbs y).drop (((limbs y).length) - 1) = limbs (y / 4294967296 ^ ((limbs y).length - 1))) (I (ES : lt2 (y / 4294967296 ^ ((limbs y).length - 1)) 32) (I (DJ ES : bl (y / 4294967296 ^ ((limbs y).length - 1)) ≤ 32) ((fun (s : Nat) (hs : s = 32 - (bl (y / 4294967296 ^ ((limbs y).length - 1)))) => have hs32 := (show s ≤ 32 by omega); have hV0 := (Nat.mul_pos hp0 (Nat.pow_pos (by omega)) : 0 < y * 2 ^ s); have hVA := (jH (Nat.mul_le_mul_right _ hyx) : (limbs (y * 2 ^ s)).length ≤ (limbs (x * 2 ^ s)).length); have hV1 := (Nat.pos_of_ne_zero (mt nl0.1 (by omega)) : 0 < (limbs (y * 2 ^ s)).length); have hvt := zi hV1; I (by omega : (limbs (y * 2 ^ s)).length ≤ (limbs (x * 2 ^ s)).length) ((fun (L : Nat) (hL : L = (((limbs (x * 2 ^ s)).length) - ((limbs (y * 2 ^ s)).length)) + 1) => I (by omega : L = L) (I (by subst hL; exact DX.start (n := (limbs (y * 2 ^ s)).length) (by omega) rfl (by omega) rfl : DX (x * 2 ^ s) (y * 2 ^ s) L ((((limbs (x * 2 ^ s)).length : Nat) : Int) - (((limbs (y * 2 ^ s)).length : Nat) : Int)) (List.replicate L (0 : Nat)) (x * 2 ^ s)) (fun (z : Int) (r : Nat) (ql : List Nat) (hb9 : HB [.s 15 (.int .i64) (.n 17179869184), .s 5 .mag (.n 137438953568), .a 82 (.nat .u32) (.n 4294967295)] (z, r, ql)) (hD : DX (x * 2 ^ s) (y * 2 ^ s) L z ql r) => have hv34 := (show Int.natAbs z ≤ 17179869184 from hb9.1); have hv35 := (show ∀ u ∈ ql, u ≤ 4294967295 from hb9.2.2); have hDz := hD.hz; have hDz1 := hD.hz1; have hDl := hD.hl; And.intro (fun (h10 : 0 ≤ z) => have hr1 := q8 r (z.toNat + (limbs (y * 2 ^ s)).length); have hr2 := q8 r (z.toNat + (limbs (y * 2 ^ s)).length - 1); And.intro (fun (h11 : z + (((limbs (y * 2 ^ s)).length : Nat) : Int) < (((limbs r).length : Nat) : Int)) => I (by omega : z + (((limbs (y * 2 ^ s)).length : Nat) : Int) = ((z.toNat + (limbs (y * 2 ^ s)).length : Nat) : Int)) (I (by omega : z.toNat + (limbs (y * 2 ^ s)).length < (limbs r).length) (And.intro (fun (h12 : (z + (((limbs (y * 2 ^ s)).length : Nat) : Int)) - 1 < (((limbs r).length : Nat) : Int)) => I (by omega : (z + (((limbs (y * 2 ^ s)).length : Nat) : Int)) - 1 = ((z.toNat + (limbs (y * 2 ^ s)).length - 1 : Nat) : Int)) (I (by omega : z.toNat + (limbs (y * 2 ^ s)).length - 1 < (limbs r).length) (I (wS _ 32 rfl (q8 _ _) (by omega) : qy .or .u64 ((((limbs r).getD (z.toNat + (limbs (y * 2 ^ s)).length) 0) * 2 ^ 32 : Nat) : Int) (((limbs r).getD (z.toNat + (limbs (y * 2 ^ s)).length - 1) 0 : Nat) : Int) (((((limbs r).getD (z.toNat + (limbs (y * 2 ^ s)).length) 0) * 2 ^ 32) + ((limbs r).getD (z.toNat + (limbs (y * 2 ^ s)).length - 1) 0) : Nat) : Int)) (I (by omega : (((limbs r).getD (z.toNat + (limbs (y * 2 ^ s)).length) 0) * 2 ^ 32) + ((limbs r).getD (z.toNat + (limbs (y * 2 ^ s)).length - 1) 0) ≤ 18446744073709551615) (have hT := (show (((limbs r).getD (z.toNat + (limbs (y * 2 ^ s)).length) 0) * 2 ^ 32) + ((limbs r).getD (z.toNat + (limbs (y * 2 ^ s)).length - 1) 0) = (limbs r).getD (z.toNat + (limbs (y * 2 ^ s)).length) 0 * 4294967296 + (limbs r).getD (z.toNat + (limbs (y * 2 ^ s)).length - 1) 0 from by (have hq1 := @qp (limbs r) (z.toNat + (limbs (y * 2 ^ s)).length); have hq2 := @qp (limbs r) (z.toNat + (limbs (y * 2 ^ s)).length - 1); omega)); I (by omega : 1 ≤ (limbs (y * 2 ^ s)).length) (I (by omega : ((limbs (y * 2 ^ s)).length) - 1 < (limbs (y * 2 ^ s)).length) (I (by omega : 0 < (limbs (y * 2 ^ s)).getD (((limbs (y * 2 ^ s)).length) - 1) 0) (I (by omega : 0 ≤ z) (I (hD.est (by omega) rfl hV0 (by omega) rfl hT : EX (y * 2 ^ s) z.toNat r (min (((((limbs r).getD (z.toNat + (limbs (y * 2 ^ s)).length) 0) * 2 ^ 32) + ((limbs r).getD (z.toNat + (limbs (y * 2 ^ s)).length - 1) 0)) / ((limbs (y * 2 ^ s)).getD (((limbs (y * 2 ^ s)).length) - 1) 0)) 4294967295) (((y * 2 ^ s) * (min (((((limbs r).getD (z.toNat + (limbs (y * 2 ^ s)).length) 0) * 2 ^ 32) + ((limbs r).getD (z.toNat + (limbs (y * 2 ^ s)).length - 1) 0)) / ((limbs (y * 2 ^ s)).getD (((limbs (y * 2 ^ s)).length) - 1) 0)) 4294967295)) * 4294967296 ^ z.toNat)) (fun (d : Nat) (p : Nat) (hb13 : HB [.s 17 (.nat .u64) (.n 4294967295), .s 18 .mag (.n 1099511627776)] (d, p)) (hE : EX (y * 2 ^ s) z.toNat r d p) => have hv16 := (show d ≤ 4294967295 from hb13.1); And.intro (fun (h14 : 0 < cmpN p r) => have hG := hE.gt hV0 (zp.1 (by assumption)); I (by omega : 1 ≤ d) (I (by omega : 0 ≤ z) (I (hG.2.1 : (y * 2 ^ s) * 4294967296 ^ z.toNat ≤ p) (And.intro (hG.2.2 : EX (y * 2 ^ s) z.toNat r (d - 1) (p - ((y * 2 ^ s) * 4294967296 ^ z.toNat))) (by have := hG.1; omega : d - 1 < d))))) (fun (h15 : ¬ (0 < cmpN p r)) => have hle := (show p ≤ r from Nat.le_of_not_lt (mt zp.2 (by assumption))); I (by omega : z = ((z.toNat : Nat) : Int)) (I (by omega : z.toNat < L) (I (by omega : z.toNat < ql.length) (I (hle : p ≤ r) (I (show Int.natAbs (z - 1) ≤ 17179869184 by omega : Bnd (.int .i64) (.n 17179869184) (z - 1)) (And.intro (hD.next (by omega) rfl hV0 hE hle : DX (x * 2 ^ s) (y * 2 ^ s) L (z - 1) (ql.set z.toNat d) (r - p)) (by omega : ((z - 1) + 1).toNat < (z + 1).toNat))))))))))))))))) (fun (h17 : ¬ ((z + (((limbs (y * 2 ^ s)).length : Nat) : Int)) - 1 < (((limbs r).length : Nat) : Int))) => have hT := (show ((limbs r).getD (z.toNat + (limbs (y * 2 ^ s)).length) 0) * 2 ^ 32 = (limbs r).getD (z.toNat + (limbs (y * 2 ^ s)).length) 0 * 4294967296 + (limbs r).getD (z.toNat + (limbs (y * 2 ^ s)).length - 1) 0 from by (have hq1 := @qp (limbs r) (z.toNat + (limbs (y * 2 ^ s)).length); have hq2 := @qp (limbs r) (z.toNat + (limbs (y * 2 ^ s)).length - 1); omega)); I (by omega : 1 ≤ (limbs (y * 2 ^ s)).length) (I (by omega : ((limbs (y * 2 ^ s)).length) - 1 < (limbs (y * 2 ^ s)).length) (I (by omega : 0 < (limbs (y * 2 ^ s)).getD (((limbs (y * 2 ^ s)).length) - 1) 0) (I (by omega : 0 ≤ z) (I (hD.est (by omega) rfl hV0 (by omega) rfl hT : EX (y * 2 ^ s) z.toNat r (min ((((limbs r).getD (z.toNat + (limbs (y * 2 ^ s)).length) 0) * 2 ^ 32) / ((limbs (y * 2 ^ s)).getD (((limbs (y * 2 ^ s)).length) - 1) 0)) 4294967295) (((y * 2 ^ s) * (min ((((limbs r).getD (z.toNat + (limbs (y * 2 ^ s)).length) 0) * 2 ^ 32) / ((limbs (y * 2 ^ s)).getD (((limbs (y * 2 ^ s)).length) - 1) 0)) 4294967295)) * 4294967296 ^ z.toNat)) (fun (d : Nat) (p : Nat) (hb18 : HB [.s 17 (.nat .u64) (.n 4294967295), .s 18 .mag (.n 1099511627776)] (d, p)) (hE : EX (y * 2 ^ s) z.toNat r d p) => have hv21 := (show d ≤ 4294967295 from hb18.1); And.intro (fun (h19 : 0 < cmpN p r) => have hG := hE.gt hV0 (zp.1 (by assumption)); I (by omega : 1 ≤ d) (I (by omega : 0 ≤ z) (I (hG.2.1 : (y * 2 ^ s) * 4294967296 ^ z.toNat ≤ p) (And.intro (hG.2.2 : EX (y * 2 ^ s) z.toNat r (d - 1) (p - ((y * 2 ^ s) * 4294967296 ^ z.toNat))) (by have := hG.1; omega : d - 1 < d))))) (fun (h20 : ¬ (0 < cmpN p r)) => have hle := (show p ≤ r from Nat.le_of_not_lt (mt zp.2 (by assumption))); I (by omega : z = ((z.toNat : Nat) : Int)) (I (by omega : z.toNat < L) (I (by omega : z.toNat < ql.length) (I (hle : p ≤ r) (I (show Int.natAbs (z - 1) ≤ 17179869184 by omega : Bnd (.int .i64) (.n 17179869184) (z - 1)) (And.intro (hD.next (by omega) rfl hV0 hE hle : DX (x * 2 ^ s) (y * 2 ^ s) L (z - 1) (ql.set z.toNat d) (r - p)) (by omega : ((z - 1) + 1).toNat < (z + 1).toNat)))))))))))))))) (fun (h22 : ¬ (z + (((limbs (y * 2 ^ s)).length : Nat) : Int) < (((limbs r).length : Nat) : Int))) => And.intro (fun (h23 : (z + (((limbs (y * 2 ^ s)).length : Nat) : Int)) - 1 < (((limbs r).length : Nat) : Int)) => I (by omega : (z + (((limbs (y * 2 ^ s)).length : Nat) : Int)) - 1 = ((z.toNat + (limbs (y * 2 ^ s)).length - 1 : Nat) : Int)) (I (by omega : z.toNat + (limbs (y * 2 ^ s)).length - 1 < (limbs r).length) (I (RP (q8 _ _) : qy .or .u64 0 (((limbs r).getD (z.toNat + (limbs (y * 2 ^ s)).length - 1) 0 : Nat) : Int) ((0 + ((limbs r).getD (z.toNat + (limbs (y * 2 ^ s)).length - 1) 0) : Nat) : Int)) (I (by omega : 0 + ((limbs r).getD (z.toNat + (limbs (y * 2 ^ s)).length - 1) 0) ≤ 18446744073709551615) (have hT := (show 0 + ((limbs r).getD (z.toNat + (limbs (y * 2 ^ s)).length - 1) 0) = (limbs r).getD (z.toNat + (limbs (y * 2 ^ s)).length) 0 * 4294967296 + (limbs r).getD (z.toNat + (limbs (y * 2 ^ s)).length - 1) 0 from by (have hq1 := @qp (limbs r) (z.toNat + (limbs (y * 2 ^ s)).length); have hq2 := @qp (limbs r) (z.toNat + (limbs (y * 2 ^ s)).length - 1); omega)); I (by omega : 1 ≤ (limbs (y * 2 ^ s)).length) (I (by omega : ((limbs (y * 2 ^ s)).length) - 1 < (limbs (y * 2 ^ s)).length) (I (by omega : 0 < (limbs (y * 2 ^ s)).getD (((limbs (y * 2 ^ s)).length) - 1) 0) (I (by omega : 0 ≤ z) (I (hD.est (by omega) rfl hV0 (by omega) rfl hT : EX (y * 2 ^ s) z.toNat r (min ((0 + ((limbs r).getD (z.toNat + (limbs (y * 2 ^ s)).length - 1) 0)) / ((limbs (y * 2 ^ s)).getD (((limbs (y * 2 ^ s)).length) - 1) 0)) 4294967295) (((y * 2 ^ s) * (min ((0 + ((limbs r).getD (z.toNat + (limbs (y * 2 ^ s)).length - 1) 0)) / ((limbs (y * 2 ^ s)).getD (((limbs (y * 2 ^ s)).length) - 1) 0)) 4294967295)) * 4294967296 ^ z.toNat)) (fun (d : Nat) (p : Nat) (hb24 : HB [.s 17 (.nat .u64) (.n 4294967295), .s 18 .mag (.n 1099511627776)] (d, p)) (hE : EX (y * 2 ^ s) z.toNat r d p) => have hv27 := (show d ≤ 4294967295 from hb24.1); And.intro (fun (h25 : 0 < cmpN p r) => have hG := hE.gt hV0 (zp.1 (by assumption)); I (by omega : 1 ≤ d) (I (by omega : 0 ≤ z) (I (hG.2.1 : (y * 2 ^ s) * 4294967296 ^ z.toNat ≤ p) (And.intro (hG.2.2 : EX (y * 2 ^ s) z.toNat r (d - 1) (p - ((y * 2 ^ s) * 4294967296 ^ z.toNat))) (by have := hG.1; omega : d - 1 < d))))) (fun (h26 : ¬ (0 < cmpN p r)) => have hle := (show p ≤ r from Nat.le_of_not_lt (mt zp.2 (by assumption))); I (by omega : z = ((z.toNat : Nat) : Int)) (I (by omega : z.toNat < L) (I (by omega : z.toNat < ql.length) (I (hle : p ≤ r) (I (show Int.natAbs (z - 1) ≤ 17179869184 by omega : Bnd (.int .i64) (.n 17179869184) (z - 1)) (And.intro (hD.next (by omega) rfl hV0 hE hle : DX (x * 2 ^ s) (y * 2 ^ s) L (z - 1) (ql.set z.toNat d) (r - p)) (by omega : ((z - 1) + 1).toNat < (z + 1).toNat))))))))))))))))) (fun (h28 : ¬ ((z + (((limbs (y * 2 ^ s)).length : Nat) : Int)) - 1 < (((limbs r).length : Nat) : Int))) => have hT := (show 0 = (limbs r).getD (z.toNat + (limbs (y * 2 ^ s)).length) 0 * 4294967296 + (limbs r).getD (z.toNat + (limbs (y * 2 ^ s)).length - 1) 0 from by (have hq1 := @qp (limbs r) (z.toNat + (limbs (y * 2 ^ s)).length); have hq2 := @qp (limbs r) (z.toNat + (limbs (y * 2 ^ s)).length - 1); omega)); I (by omega : 1 ≤ (limbs (y * 2 ^ s)).length) (I (by omega : ((limbs (y * 2 ^ s)).length) - 1 < (limbs (y * 2 ^ s)).length) (I (by omega : 0 < (limbs (y * 2 ^ s)).getD (((limbs (y * 2 ^ s)).length) - 1) 0) (I (by omega : 0 ≤ z) (I (hD.est (by omega) rfl hV0 (by omega) rfl hT : EX (y * 2 ^ s) z.toNat r (min (0 / ((limbs (y * 2 ^ s)).getD (((limbs (y * 2 ^ s)).length) - 1) 0)) 4294967295) (((y * 2 ^ s) * (min (0 / ((limbs (y * 2 ^ s)).getD (((limbs (y * 2 ^ s)).length) - 1) 0)) 4294967295)) * 4294967296 ^ z.toNat)) (fun (d : Nat) (p : Nat) (hb29 : HB [.s 17 (.nat .u64) (.n 4294967295), .s 18 .mag (.n 1099511627776)] (d, p)) (hE : EX (y * 2 ^ s) z.toNat r d p) => have hv32 := (show d ≤ 4294967295 from hb29.1); And.intro (fun (h30 : 0 < cmpN p r) => have hG := hE.gt hV0 (zp.1 (by assumption)); I (by omega : 1 ≤ d) (I (by omega : 0 ≤ z) (I (hG.2.1 : (y * 2 ^ s) * 4294967296 ^ z.toNat ≤ p) (And.intro (hG.2.2 : EX (y * 2 ^ s) z.toNat r (d - 1) (p - ((y * 2 ^ s) * 4294967296 ^ z.toNat))) (by have := hG.1; omega : d - 1 < d))))) (fun (h31 : ¬ (0 < cmpN p r)) => have hle := (show p ≤ r from Nat.le_of_not_lt (mt zp.2 (by assumption))); I (by omega : z = ((z.toNat : Nat) : Int)) (I (by omega : z.toNat < L) (I (by omega : z.toNat < ql.length) (I (hle : p ≤ r) (I (show Int.natAbs (z - 1) ≤ 17179869184 by omega : Bnd (.int .i64) (.n 17179869184) (z - 1)) (And.intro (hD.next (by omega) rfl hV0 hE hle : DX (x * 2 ^ s) (y * 2 ^ s) L (z - 1) (ql.set z.toNat d) (r - p)) (by omega : ((z - 1) + 1).toNat < (z + 1).toNat))))))))))))))) (fun (h33 : ¬ (0 ≤ z)) => I (by omega : L = ql.length) (have hF := hD.fin hp0 (by omega); I (hD.hu : ∀ u ∈ ql, u < 4294967296) (And.intro (hF.1 : valL ql = x / y) (hF.2 : r / 2 ^ s = x % y))))))) ((((limbs (x * 2 ^ s)).length) - ((limbs (y * 2 ^ s)).length)) + 1) rfl)) (32 - (bl (y / 4294967296 ^ ((limbs y).length - 1)))) rfl))))))))))⟩)
abbrev M1 : Ctr Tryz.prog := FI.c Ub
abbrev Ud : FI := ⟨148, [.mag, .mag], [(.n 137438953536), (.n 137438953536)], fun _ => [], fun b z => (fun (x : Nat) (y : Nat) => .c (.one (.dt .mag (.n (max (b0 b).nb (b1 b).nb)) (Nat.gcd x y)))) z.1 z.2⟩
theorem Ue : Ud.OK Tryz.prog := mkF hmix 51 Tryz.func148 rfl rfl (by decide) [(147, .c Fi), (149, .c M1), (150, .c Gl), (221, .c HW)] (fun _ => rfl) (fun _ => rfl) (fun _ _ => rfl) (fun (x : Nat) (y : Nat) b hx hp => qc (Iy (Bnds.h2 hx).1.mag (Bnds.h2 hx).2.mag) rfl) (fun (x : Nat) (y : Nat) hx hp => by
 have hx0 : lt2 x 137438953536 := hx.1
 have hl0 : (limbs x).length ≤ 4294967299 := qe (Nat.le_of_lt hx0)
 have hx1 : lt2 y 137438953536 := hx.2
 have hl1 : (limbs y).length ≤ 4294967299 := qe (Nat.le_of_lt hx1)
 exact ⟨.loop [.s 0 .mag (.n 137438953536), .s 1 .mag (.n 137438953536)] (fun ((a, b) : Nat × Nat) => Nat.gcd a b = Nat.gcd x y) (fun ((a, b) : Nat × Nat) => b) (fun ((a, b) : Nat × Nat) => .cond (.cond (.cond (.loop [.s 5 (.nat .u64) (.n 18446744073709551615), .s 7 (.nat .u64) (.n 18446744073709551615)] (fun ((u, v) : Nat × Nat) => Nat.gcd u v = Nat.gcd x y) (fun ((u, v) : Nat × Nat) => v) (fun ((u, v) : Nat × Nat) => .nil)) (.nil)) (.nil)) (.nil)), kcast (by kernel_rfl) (I (rfl : Nat.gcd x y = Nat.gcd x y) (fun (a : Nat) (b : Nat) (hb1 : HB [.s 0 .mag (.n 137438953536), .s 1 .mag (.n 137438953536)] (a, b)) (hC : Nat.gcd a b = Nat.gcd x y) => And.intro (fun (h2 : 0 < (limbs b).length) => And.intro (fun (h3 : xk a = true) => And.intro (fun (h4 : xk b = true) => I (by rw [(xw_y (x := a) (of_decide_eq_true (by assumption))).1, (xw_y (x := b) (of_decide_eq_true (by assumption))).1]; exact hC : Nat.gcd (xw a) (xw b) = Nat.gcd x y) (fun (u : Nat) (v : Nat) (hb5 : HB [.s 5 (.nat .u64) (.n 18446744073709551615), .s 7 (.nat .u64) (.n 18446744073709551615)] (u, v)) (hK : Nat.gcd u v = Nat.gcd x y) => have hv8 := (show u ≤ 18446744073709551615 from hb5.1); have hv9 := (show v ≤ 18446744073709551615 from hb5.2); And.intro (fun (h6 : v ≠ 0) => I (by omega : 0 < v) (And.intro ((vq u v).trans hK : Nat.gcd v (u % v) = Nat.gcd x y) (Nat.mod_lt _ (by omega) : u % v < v))) (fun (h7 : ¬ (v ≠ 0)) => (by rw [show v = 0 by omega, Nat.gcd_zero_right] at hK; exact hK : u = Nat.gcd x y)))) (fun (h10 : ¬ (xk b = true)) => have hb0 := (show 0 < b from Nat.pos_of_ne_zero (fun e => by have := nl0.2 e; omega)); I (hb0 : 0 < b) (And.intro ((vq a b).trans hC : Nat.gcd b (a % b) = Nat.gcd x y) (Nat.mod_lt _ hb0 : a % b < b)))) (fun (h11 : ¬ (xk a = true)) => have hb0 := (show 0 < b from Nat.pos_of_ne_zero (fun e => by have := nl0.2 e; omega)); I (hb0 : 0 < b) (And.intro ((vq a b).trans hC : Nat.gcd b (a % b) = Nat.gcd x y) (Nat.mod_lt _ hb0 : a % b < b)))) (fun (h12 : ¬ (0 < (limbs b).length)) => (by have e := nl0.1 (show (limbs b).length = 0 by omega); rw [e, Nat.gcd_zero_right] at hC; exact hC : a = Nat.gcd x y))))⟩)
abbrev Uc : Ctr Tryz.prog := FI.c Ue
abbrev RJ : FI := ⟨16, [.rat], [(.n 68719476736)], fun _ => [], fun b z => (fun (x : Rat) => .c (.one (.dt (.int .i64) (.n 1) (sgnQ x)))) z⟩
theorem RK : RJ.OK Tryz.prog := mkF hmix 9 Tryz.func16 rfl rfl (by decide) [] (fun _ => rfl) (fun _ => rfl) (fun _ _ => rfl) (fun (x : Rat) b hx hp => qc (Hp x) rfl) (fun (x : Rat) hx hp => by
 exact ⟨.nil, kcast (by kernel_rfl) (And.intro (fun (h1 : (limbs x.num.natAbs).length = 0) => (by rw [sgnQ, if_pos (nl0.1 (by assumption))] : 0 = sgnQ x)) (fun (h2 : ¬ ((limbs x.num.natAbs).length = 0)) => And.intro (fun (h3 : x.num < 0) => (by rw [sgnQ, if_neg (mt nl0.2 (by assumption)), if_pos (by assumption)] : (-1) = sgnQ x)) (fun (h4 : ¬ (x.num < 0)) => (by rw [sgnQ, if_neg (mt nl0.2 (by assumption)), if_neg (by assumption)] : 1 = sgnQ x))))⟩)
abbrev D2 : Ctr Tryz.prog := FI.c RK
abbrev Uo : FI := ⟨79, [.rat], [(.n 1099511627776)], fun _ => [], fun b z => (fun (x : Rat) => .c (.one (.dt .mag (.n ((b0 b).nb + 1)) (x.den)))) z⟩
theorem Up : Uo.OK Tryz.prog := mkF hmix 10 Tryz.func79 rfl rfl (by decide) [] (fun _ => rfl) (fun _ => rfl) (fun _ _ => rfl) (fun (x : Rat) b hx hp => qc (AM (Bnds.h1 hx).rat.2) rfl) (fun (x : Rat) hx hp => by
 have hx0 : Bnd .rat (.n 1099511627776) x := hx
 exact ⟨.cond (.h 2 0 (.mk (.im (.nat .u32) (.n 4294967295))) (.h 2 1 (.mag 1 1) (.nil))) (.h 3 1 (.mag x.den 1099511627777) (.nil)), kcast (by kernel_rfl) (And.intro (fun (h1 : (denL x.den).length = 0) => I (A3.symm : [1] = limbs 1) (I (ER rfl : lt2 1 1) (((wE x.den_nz (by omega)).symm : 1 = x.den)))) (fun (h2 : ¬ ((denL x.den).length = 0)) => I (B8 (by omega) : denL x.den = limbs x.den) (I (AM hx0.2 : lt2 x.den 1099511627777) ((Eq.refl x.den)))))⟩)
abbrev EB : Ctr Tryz.prog := FI.c Up
abbrev RL : FI := ⟨81, [(.int .i64)], [(.n 4611686018427387904)], fun _ => [], fun b z => (fun (v : Int) => .tup [(.one (.dt .mag (.n (Nat.log2 (b0 b).nb + 1)) (v.natAbs))), .one (.dt .bool .u (decide (v < 0)))]) z⟩
theorem RM : RL.OK Tryz.prog := mkF hmix 15 Tryz.func81 rfl rfl (by decide) [(150, .c Gl)] (fun _ => rfl) (fun _ => rfl) (fun _ _ => rfl) (fun (v : Int) b hx hp => qF (qc (z8 (Bnds.h1 hx).int) rfl) (qF (qc trivial rfl) jv)) (fun (v : Int) hx hp => by
 have hx0 : Int.natAbs v ≤ 4611686018427387904 := hx
 exact ⟨.cond (.h 2 3 (.i (.n (v.natAbs - 1) 4611686018427387904)) (.nil)) (.h 3 1 (.i (.n v.natAbs 4611686018427387904)) (.nil)), kcast (by kernel_rfl) (And.intro (fun (h1 : v < 0) => I (by rw [show -(v + 1) = ((v.natAbs - 1 : Nat) : Int) by omega]; exact z4 (by omega) : IntKind.wrap .u64 (-(v + 1)) = ((v.natAbs - 1 : Nat) : Int)) (I (by omega : v.natAbs - 1 ≤ 4611686018427387904) (And.intro (by omega : (v.natAbs - 1) + 1 = v.natAbs) ((decide_eq_true (by assumption)).symm : true = decide (v < 0))))) (fun (h2 : ¬ (v < 0)) => I (by rw [show v = ((v.natAbs : Nat) : Int) by omega]; exact z4 (by omega) : IntKind.wrap .u64 v = ((v.natAbs : Nat) : Int)) (I (by omega : v.natAbs ≤ 4611686018427387904) (And.intro (Eq.refl v.natAbs) ((decide_eq_false (by assumption)).symm : false = decide (v < 0))))))⟩)
abbrev IX : Ctr Tryz.prog := FI.c RM
abbrev M6 : FI := ⟨77, [.bool, .mag, .mag], [.u, (.n 137438953536), (.n 137438953536)], fun z => (fun (neg : Bool) (n : Nat) (d : Nat) => [0 < d]) z.1 z.2.1 z.2.2, fun b z => (fun (neg : Bool) (n : Nat) (d : Nat) => .c (.agg [.dt .rat (.n (max (b1 b).nb (b2 b).nb)) (sgQ neg n d)])) z.1 z.2.1 z.2.2⟩
theorem M7 : M6.OK Tryz.prog := mkF hmix 55 Tryz.func77 rfl rfl (by decide) [(147, .c Fi), (148, .c Uc), (149, .c M1)] (fun _ => rfl) (fun _ => rfl) (fun _ _ => rfl) (fun (neg : Bool) (n : Nat) (d : Nat) b hx hp => qY (Dp (qa (Nat.le_max_left _ _) (Bnds.h3 hx).2.1.mag) (qa (Nat.le_max_right _ _) (Bnds.h3 hx).2.2.mag))) (fun (neg : Bool) (n : Nat) (d : Nat) hx hp => by
 have hx1 : lt2 n 137438953536 := hx.2.1
 have hl1 : (limbs n).length ≤ 4294967299 := qe (Nat.le_of_lt hx1)
 have hx2 : lt2 d 137438953536 := hx.2.2
 have hl2 : (limbs d).length ≤ 4294967299 := qe (Nat.le_of_lt hx2)
 have hp0 : 0 < d := hp _ (List.mem_cons_self)
 exact ⟨.cond (.nil) ((fun (g : Nat) => .cond (.cond (.cond (.h 10 3 (.rat (sgQ neg n d) 137438953536) (.nil)) (.h 10 3 (.rat (sgQ neg n d) 137438953536) (.nil))) (.h 10 3 (.rat (sgQ neg n d) 137438953536) (.nil))) (.cond (.cond (.cond (.h 10 3 (.rat (sgQ neg n d) 137438953536) (.nil)) (.h 10 3 (.rat (sgQ neg n d) 137438953536) (.nil))) (.h 10 3 (.rat (sgQ neg n d) 137438953536) (.nil))) (.cond (.cond (.h 10 3 (.rat (sgQ neg n d) 137438953536) (.nil)) (.h 10 3 (.rat (sgQ neg n d) 137438953536) (.nil))) (.h 10 3 (.rat (sgQ neg n d) 137438953536) (.nil))))) (Nat.gcd n d)), kcast (by kernel_rfl) (And.intro (fun (h1 : (limbs n).length = 0) => (by rw [nl0.1 (show (limbs n).length = 0 by assumption), BA] : 0 = sgQ neg n d)) (fun (h2 : ¬ ((limbs n).length = 0)) => have hn0 := (show 0 < n from Nat.pos_of_ne_zero (mt nl0.2 (by omega))); have hd0 := hp0; (fun (g : Nat) (hg : g = Nat.gcd n d) => have hg0 := (show 0 < g from hg ▸ Nat.gcd_pos_of_pos_right _ hd0); have hgl := (Nat.pos_of_ne_zero (mt nl0.1 (show ¬ g = 0 by omega)) : 0 < (limbs g).length); And.intro (fun (h3 : (limbs g).length ≠ 1) => I (by omega : 0 < g) (I (by omega : 0 < g) (And.intro (fun (h4 : (limbs (d / g)).length = 1) => I (by omega : 0 < (limbs (d / g)).length) (And.intro (fun (h5 : (limbs (d / g)).getD 0 0 = 1) => I ((qZ hn0 hd0).symm : neg = decide ((sgQ neg n d).num < 0)) (I (by rw [qR hd0, ← hg] <;> first | rfl | (rw [hg1, Nat.div_one] <;> rfl) : n / g = (sgQ neg n d).num.natAbs) (I (by rw [(qP hd0).2, ← hg]; first | exact jS (by omega) (by omega) | (rw [hg1, Nat.div_one]; exact jS (by omega) (by omega)) : (sgQ neg n d).den = 1) (I ((qw (p := 137438953536) (qa (by decide) hx1) (qz (qa (by decide) hx2)) hd0).1 : lt2 (sgQ neg n d).num.natAbs 137438953536) (I ((qw (p := 137438953536) (qa (by decide) hx1) (qz (qa (by decide) hx2)) hd0).2 : le2 (sgQ neg n d).den 137438953536) ((Eq.refl (sgQ neg n d)))))))) (fun (h6 : ¬ ((limbs (d / g)).getD 0 0 = 1)) => I ((qZ hn0 hd0).symm : neg = decide ((sgQ neg n d).num < 0)) (I (by rw [qR hd0, ← hg] <;> first | rfl | (rw [hg1, Nat.div_one] <;> rfl) : n / g = (sgQ neg n d).num.natAbs) (I (jF (by rw [(qP hd0).2, ← hg] <;> first | rfl | (rw [hg1, Nat.div_one] <;> rfl)) (by omega) : limbs (d / g) = denL (sgQ neg n d).den) (I ((qw (p := 137438953536) (qa (by decide) hx1) (qz (qa (by decide) hx2)) hd0).1 : lt2 (sgQ neg n d).num.natAbs 137438953536) (I ((qw (p := 137438953536) (qa (by decide) hx1) (qz (qa (by decide) hx2)) hd0).2 : le2 (sgQ neg n d).den 137438953536) ((Eq.refl (sgQ neg n d)))))))))) (fun (h7 : ¬ ((limbs (d / g)).length = 1)) => I ((qZ hn0 hd0).symm : neg = decide ((sgQ neg n d).num < 0)) (I (by rw [qR hd0, ← hg] <;> first | rfl | (rw [hg1, Nat.div_one] <;> rfl) : n / g = (sgQ neg n d).num.natAbs) (I (jF (by rw [(qP hd0).2, ← hg] <;> first | rfl | (rw [hg1, Nat.div_one] <;> rfl)) (by omega) : limbs (d / g) = denL (sgQ neg n d).den) (I ((qw (p := 137438953536) (qa (by decide) hx1) (qz (qa (by decide) hx2)) hd0).1 : lt2 (sgQ neg n d).num.natAbs 137438953536) (I ((qw (p := 137438953536) (qa (by decide) hx1) (qz (qa (by decide) hx2)) hd0).2 : le2 (sgQ neg n d).den 137438953536) ((Eq.refl (sgQ neg n d))))))))))) (fun (h8 : ¬ ((limbs g).length ≠ 1)) => I (by omega : 0 < (limbs g).length) (And.intro (fun (h9 : (limbs g).getD 0 0 ≠ 1) => I (by omega : 0 < g) (I (by omega : 0 < g) (And.intro (fun (h10 : (limbs (d / g)).length = 1) => I (by omega : 0 < (limbs (d / g)).length) (And.intro (fun (h11 : (limbs (d / g)).getD 0 0 = 1) => I ((qZ hn0 hd0).symm : neg = decide ((sgQ neg n d).num < 0)) (I (by rw [qR hd0, ← hg] <;> first | rfl | (rw [hg1, Nat.div_one] <;> rfl) : n / g = (sgQ neg n d).num.natAbs) (I (by rw [(qP hd0).2, ← hg]; first | exact jS (by omega) (by omega) | (rw [hg1, Nat.div_one]; exact jS (by omega) (by omega)) : (sgQ neg n d).den = 1) (I ((qw (p := 137438953536) (qa (by decide) hx1) (qz (qa (by decide) hx2)) hd0).1 : lt2 (sgQ neg n d).num.natAbs 137438953536) (I ((qw (p := 137438953536) (qa (by decide) hx1) (qz (qa (by decide) hx2)) hd0).2 : le2 (sgQ neg n d).den 137438953536) ((Eq.refl (sgQ neg n d)))))))) (fun (h12 : ¬ ((limbs (d / g)).getD 0 0 = 1)) => I ((qZ hn0 hd0).symm : neg = decide ((sgQ neg n d).num < 0)) (I (by rw [qR hd0, ← hg] <;> first | rfl | (rw [hg1, Nat.div_one] <;> rfl) : n / g = (sgQ neg n d).num.natAbs) (I (jF (by rw [(qP hd0).2, ← hg] <;> first | rfl | (rw [hg1, Nat.div_one] <;> rfl)) (by omega) : limbs (d / g) = denL (sgQ neg n d).den) (I ((qw (p := 137438953536) (qa (by decide) hx1) (qz (qa (by decide) hx2)) hd0).1 : lt2 (sgQ neg n d).num.natAbs 137438953536) (I ((qw (p := 137438953536) (qa (by decide) hx1) (qz (qa (by decide) hx2)) hd0).2 : le2 (sgQ neg n d).den 137438953536) ((Eq.refl (sgQ neg n d)))))))))) (fun (h13 : ¬ ((limbs (d / g)).length = 1)) => I ((qZ hn0 hd0).symm : neg = decide ((sgQ neg n d).num < 0)) (I (by rw [qR hd0, ← hg] <;> first | rfl | (rw [hg1, Nat.div_one] <;> rfl) : n / g = (sgQ neg n d).num.natAbs) (I (jF (by rw [(qP hd0).2, ← hg] <;> first | rfl | (rw [hg1, Nat.div_one] <;> rfl)) (by omega) : limbs (d / g) = denL (sgQ neg n d).den) (I ((qw (p := 137438953536) (qa (by decide) hx1) (qz (qa (by decide) hx2)) hd0).1 : lt2 (sgQ neg n d).num.natAbs 137438953536) (I ((qw (p := 137438953536) (qa (by decide) hx1) (qz (qa (by decide) hx2)) hd0).2 : le2 (sgQ neg n d).den 137438953536) ((Eq.refl (sgQ neg n d))))))))))) (fun (h14 : ¬ ((limbs g).getD 0 0 ≠ 1)) => have hg1 := (jS (by omega) (by omega) : g = 1); And.intro (fun (h15 : (limbs d).length = 1) => I (by omega : 0 < (limbs d).length) (And.intro (fun (h16 : (limbs d).getD 0 0 = 1) => I ((qZ hn0 hd0).symm : neg = decide ((sgQ neg n d).num < 0)) (I (by rw [qR hd0, ← hg] <;> first | rfl | (rw [hg1, Nat.div_one] <;> rfl) : n = (sgQ neg n d).num.natAbs) (I (by rw [(qP hd0).2, ← hg]; first | exact jS (by omega) (by omega) | (rw [hg1, Nat.div_one]; exact jS (by omega) (by omega)) : (sgQ neg n d).den = 1) (I ((qw (p := 137438953536) (qa (by decide) hx1) (qz (qa (by decide) hx2)) hd0).1 : lt2 (sgQ neg n d).num.natAbs 137438953536) (I ((qw (p := 137438953536) (qa (by decide) hx1) (qz (qa (by decide) hx2)) hd0).2 : le2 (sgQ neg n d).den 137438953536) ((Eq.refl (sgQ neg n d)))))))) (fun (h17 : ¬ ((limbs d).getD 0 0 = 1)) => I ((qZ hn0 hd0).symm : neg = decide ((sgQ neg n d).num < 0)) (I (by rw [qR hd0, ← hg] <;> first | rfl | (rw [hg1, Nat.div_one] <;> rfl) : n = (sgQ neg n d).num.natAbs) (I (jF (by rw [(qP hd0).2, ← hg] <;> first | rfl | (rw [hg1, Nat.div_one] <;> rfl)) (by omega) : limbs d = denL (sgQ neg n d).den) (I ((qw (p := 137438953536) (qa (by decide) hx1) (qz (qa (by decide) hx2)) hd0).1 : lt2 (sgQ neg n d).num.natAbs 137438953536) (I ((qw (p := 137438953536) (qa (by decide) hx1) (qz (qa (by decide) hx2)) hd0).2 : le2 (sgQ neg n d).den 137438953536) ((Eq.refl (sgQ neg n d)))))))))) (fun (h18 : ¬ ((limbs d).length = 1)) => I ((qZ hn0 hd0).symm : neg = decide ((sgQ neg n d).num < 0)) (I (by rw [qR hd0, ← hg] <;> first | rfl | (rw [hg1, Nat.div_one] <;> rfl) : n = (sgQ neg n d).num.natAbs) (I (jF (by rw [(qP hd0).2, ← hg] <;> first | rfl | (rw [hg1, Nat.div_one] <;> rfl)) (by omega) : limbs d = denL (sgQ neg n d).den) (I ((qw (p := 137438953536) (qa (by decide) hx1) (qz (qa (by decide) hx2)) hd0).1 : lt2 (sgQ neg n d).num.natAbs 137438953536) (I ((qw (p := 137438953536) (qa (by decide) hx1) (qz (qa (by decide) hx2)) hd0).2 : le2 (sgQ neg n d).den 137438953536) ((Eq.refl (sgQ neg n d)))))))))))) (Nat.gcd n d) rfl))⟩)
abbrev Aj : Ctr Tryz.prog := FI.c M7
abbrev Uq : FI := ⟨29, [(.int .i64)], [(.n 4611686018427387904)], fun _ => [], fun b z => (fun (v : Int) => .c (.agg [.dt .rat (.n (Nat.log2 (b0 b).nb + 1)) ((v : Rat))])) z⟩
theorem Ur : Uq.OK Tryz.prog := mkF hmix 13 Tryz.func29 rfl rfl (by decide) [(81, .c IX)] (fun _ => rfl) (fun _ => rfl) (fun _ _ => rfl) (fun (v : Int) b hx hp => qY (wr (Bnds.h1 hx).int)) (fun (v : Int) hx hp => by
 have hx0 : Int.natAbs v ≤ 4611686018427387904 := hx
 exact ⟨.h 2 2 (.rat (v : Rat) 64) (.nil), kcast (by kernel_rfl) (I (by rw [ws] : decide (v < 0) = decide ((v : Rat).num < 0)) (I (by rw [ws] : v.natAbs = (v : Rat).num.natAbs) (I (CB v : (v : Rat).den = 1) (I (by rw [ws]; exact Nat.lt_of_le_of_lt hx0 (by decide) : lt2 (v : Rat).num.natAbs 64) (I (by rw [CB]; exact Nat.one_le_two_pow : le2 (v : Rat).den 64) ((Eq.refl (v : Rat))))))))⟩)
abbrev EC : Ctr Tryz.prog := FI.c Ur
abbrev RC : FI := ⟨146, [(.int .i64), (.int .i64)], [(.n 4611686018427387904), (.n 4611686018427387904)], fun _ => [], fun b z => (fun (u : Int) (v : Int) => .tup [.agg [.dt .rat (.n (max (Nat.log2 (b0 b).nb + 1) (Nat.log2 (b1 b).nb + 1))) ((u : Rat) / (v : Rat))], .one (.dt (.int .i64) (.n 3) (mkC' v))]) z.1 z.2⟩
theorem RD : RC.OK Tryz.prog := mkF hmix 29 Tryz.func146 rfl rfl (by decide) [(77, .c Aj), (81, .c IX)] (fun _ => rfl) (fun _ => rfl) (fun _ _ => rfl) (fun (u : Int) (v : Int) b hx hp => qF (qY (wM (Bnds.h2 hx).1.int (Bnds.h2 hx).2.int)) (qF (qc (Vc v) rfl) jv)) (fun (u : Int) (v : Int) hx hp => by
 have hx0 : Int.natAbs u ≤ 4611686018427387904 := hx.1
 have hx1 : Int.natAbs v ≤ 4611686018427387904 := hx.2
 exact ⟨.nil, kcast (by kernel_rfl) (And.intro (fun (h1 : v = 0) => And.intro (by rw [show v = 0 by assumption]; simp [Rat.div_def] : 0 = ((u : Int) : Rat) / ((v : Int) : Rat)) ((if_pos (by assumption)).symm : 3 = mkC' v)) (fun (h2 : ¬ (v = 0)) => I (by omega : 0 < v.natAbs) (And.intro (IA u v : sgQ (decide ((decide (u < 0)) ≠ (decide (v < 0)))) u.natAbs v.natAbs = ((u : Int) : Rat) / ((v : Int) : Rat)) ((if_neg (by assumption)).symm : 0 = mkC' v))))⟩)
abbrev RB : Ctr Tryz.prog := FI.c RD
abbrev Rz : FI := ⟨75, [(.int .i64), (.int .i64)], [(.n 4611686018427387904), (.n 4611686018427387904)], fun _ => [], fun b z => (fun (u : Int) (v : Int) => .c (.agg [.dt .rat (.n (max (Nat.log2 (b0 b).nb + 1) (Nat.log2 (b1 b).nb + 1))) ((u : Rat) / (v : Rat))])) z.1 z.2⟩
theorem RA : Rz.OK Tryz.prog := mkF hmix 14 Tryz.func75 rfl rfl (by decide) [(146, .c RB)] (fun _ => rfl) (fun _ => rfl) (fun _ _ => rfl) (fun (u : Int) (v : Int) b hx hp => qY (wM (Bnds.h2 hx).1.int (Bnds.h2 hx).2.int)) (fun (u : Int) (v : Int) hx hp => by
 exact ⟨.nil, kcast (by kernel_rfl) ((Eq.refl (((u : Int) : Rat) / ((v : Int) : Rat))))⟩)
abbrev Fj : Ctr Tryz.prog := FI.c RA
abbrev RH : FI := ⟨30, [.rat, .rat], [(.n 68719476736), (.n 68719476736)], fun _ => [], fun b z => (fun (x : Rat) (y : Rat) => .c (.one (.dt .bool .u (decide (x = y))))) z.1 z.2⟩
theorem RI : RH.OK Tryz.prog := mkF hmix 26 Tryz.func30 rfl rfl (by decide) [(82, .c Cp)] (fun _ => rfl) (fun _ => rfl) (fun _ _ => rfl) (fun (x : Rat) (y : Rat) b hx hp => qc trivial rfl) (fun (x : Rat) (y : Rat) hx hp => by
 have hx0 : Bnd .rat (.n 68719476736) x := hx.1
 have hx1 : Bnd .rat (.n 68719476736) y := hx.2
 exact ⟨.cond (.cond (.h 1 15 (.mag (dm x.den) 68719476737) (.h 1 17 (.mag (dm y.den) 68719476737) (.nil))) (.nil)) (.nil), kcast (by kernel_rfl) (And.intro (fun (h1 : (decide (x.num < 0)) = (decide (y.num < 0))) => And.intro (fun (h2 : cmpN x.num.natAbs y.num.natAbs = 0) => I (Ij _ : denL x.den = limbs (dm x.den)) (I (Kl hx0.2 : lt2 (dm x.den) 68719476737) (I (Ij _ : denL y.den = limbs (dm y.den)) (I (Kl hx1.2 : lt2 (dm y.den) 68719476737) ((UC (by assumption) (by assumption) : decide (cmpN (dm x.den) (dm y.den) = 0) = decide (x = y))))))) (fun (h3 : ¬ (cmpN x.num.natAbs y.num.natAbs = 0)) => (ysame (by first | exact .inl (by assumption) | exact .inr (.inl (by assumption))) : false = decide (x = y)))) (fun (h4 : ¬ ((decide (x.num < 0)) = (decide (y.num < 0)))) => (ysame (by first | exact .inl (by assumption) | exact .inr (.inl (by assumption))) : false = decide (x = y))))⟩)
abbrev Fk : Ctr Tryz.prog := FI.c RI
abbrev Uy : FI := ⟨80, [.rat], [(.n 68719476736)], fun _ => [], fun b z => (fun (x : Rat) => .c (.agg [.dt .rat (.n ((b0 b).nb)) (-x)])) z⟩
theorem Uz : Uy.OK Tryz.prog := mkF hmix 14 Tryz.func80 rfl rfl (by decide) [] (fun _ => rfl) (fun _ => rfl) (fun _ _ => rfl) (fun (x : Rat) b hx hp => qY (AN (Bnds.h1 hx))) (fun (x : Rat) hx hp => by
 exact ⟨.cond (.h 2 0 (.rat (-x) 68719476736) (.nil)) (.h 2 0 (.rat (-x) 68719476736) (.nil)), kcast (by kernel_rfl) (And.intro (fun (h1 : ¬ (x.num < 0)) => I (by first | exact KX (by assumption) | exact KY (by omega) : decide (0 < (limbs x.num.natAbs).length) = decide ((-x).num < 0)) (I ((ET x).symm : x.num.natAbs = (-x).num.natAbs) (I (by rw [Rat.neg_den] : denL x.den = denL (-x).den) (I ((AN hx).1 : lt2 (-x).num.natAbs 68719476736) (I ((AN hx).2 : le2 (-x).den 68719476736) ((Eq.refl (-x)))))))) (fun (h2 : ¬ (¬ (x.num < 0))) => I (by first | exact KX (by assumption) | exact KY (by omega) : false = decide ((-x).num < 0)) (I ((ET x).symm : x.num.natAbs = (-x).num.natAbs) (I (by rw [Rat.neg_den] : denL x.den = denL (-x).den) (I ((AN hx).1 : lt2 (-x).num.natAbs 68719476736) (I ((AN hx).2 : le2 (-x).den 68719476736) ((Eq.refl (-x)))))))))⟩)
abbrev Ux : Ctr Tryz.prog := FI.c Uz
abbrev Uk : FI := ⟨53, [.rat, .rat], [(.n 68719476736), (.n 68719476736)], fun _ => [], fun b z => (fun (x : Rat) (y : Rat) => .c (.agg [.dt .rat (.n ((b0 b).nb + (b1 b).nb + 1)) (x + y)])) z.1 z.2⟩
theorem Ul : Uk.OK Tryz.prog := mkF hmix 75 Tryz.func53 rfl rfl (by decide) [(77, .c Aj), (78, .c Cq), (79, .c EB), (82, .c Cp), (119, .c U5), (120, .c Uh)] (fun _ => rfl) (fun _ => rfl) (fun _ _ => rfl) (fun (x : Rat) (y : Rat) b hx hp => qY (Da (Bnds.h2 hx).1 (Bnds.h2 hx).2)) (fun (x : Rat) (y : Rat) hx hp => by
 exact ⟨.nil, kcast (by kernel_rfl) (And.intro (fun (h1 : (limbs x.num.natAbs).length = 0) => (by rw [vt (x := x) (nl0.1 (by assumption)), Rat.zero_add] : y = x + y)) (fun (h2 : ¬ ((limbs x.num.natAbs).length = 0)) => And.intro (fun (h3 : (limbs y.num.natAbs).length = 0) => (by rw [vt (x := y) (nl0.1 (by assumption)), Rat.add_zero] : x = x + y)) (fun (h4 : ¬ ((limbs y.num.natAbs).length = 0)) => have hqx := Nat.pos_of_ne_zero x.den_nz; have hqy := Nat.pos_of_ne_zero y.den_nz; have hqp := Nat.mul_pos hqx hqy; And.intro (fun (h5 : (decide (x.num < 0)) = (decide (y.num < 0))) => I (hqp : 0 < x.den * y.den) ((by rw [show x + y = x + yQ (decide (y.num < 0)) y by rw [AY]]; first | (have hs : decide (x.num < 0) = decide (y.num < 0) := (by assumption); rw [hs]; exact qE hs) | exact qC (by assumption) (Nat.le_of_not_lt (mt jd.2 (by assumption))) | exact qD (by assumption) (by have h := jd.1 (show cmpN (x.num.natAbs * y.den) (y.num.natAbs * x.den) < 0 by assumption); omega) : sgQ (decide (x.num < 0)) ((x.num.natAbs * y.den) + (y.num.natAbs * x.den)) (x.den * y.den) = x + y))) (fun (h6 : ¬ ((decide (x.num < 0)) = (decide (y.num < 0)))) => And.intro (fun (h7 : cmpN (x.num.natAbs * y.den) (y.num.natAbs * x.den) < 0) => I (hqp : 0 < x.den * y.den) ((by rw [show x + y = x + yQ (decide (y.num < 0)) y by rw [AY]]; first | (have hs : decide (x.num < 0) = decide (y.num < 0) := (by assumption); rw [hs]; exact qE hs) | exact qC (by assumption) (Nat.le_of_not_lt (mt jd.2 (by assumption))) | exact qD (by assumption) (by have h := jd.1 (show cmpN (x.num.natAbs * y.den) (y.num.natAbs * x.den) < 0 by assumption); omega) : sgQ (decide (y.num < 0)) ((y.num.natAbs * x.den) - (x.num.natAbs * y.den)) (x.den * y.den) = x + y))) (fun (h8 : ¬ (cmpN (x.num.natAbs * y.den) (y.num.natAbs * x.den) < 0)) => I (hqp : 0 < x.den * y.den) ((by rw [show x + y = x + yQ (decide (y.num < 0)) y by rw [AY]]; first | (have hs : decide (x.num < 0) = decide (y.num < 0) := (by assumption); rw [hs]; exact qE hs) | exact qC (by assumption) (Nat.le_of_not_lt (mt jd.2 (by assumption))) | exact qD (by assumption) (by have h := jd.1 (show cmpN (x.num.natAbs * y.den) (y.num.natAbs * x.den) < 0 by assumption); omega) : sgQ (decide (x.num < 0)) ((x.num.natAbs * y.den) - (y.num.natAbs * x.den)) (x.den * y.den) = x + y)))))))⟩)
abbrev HX : Ctr Tryz.prog := FI.c Ul
abbrev UD : FI := ⟨28, [.rat, .rat], [(.n 68719476736), (.n 68719476736)], fun _ => [], fun b z => (fun (x : Rat) (y : Rat) => .c (.agg [.dt .rat (.n ((b0 b).nb + (b1 b).nb + 1)) (x - y)])) z.1 z.2⟩
theorem UE : UD.OK Tryz.prog := mkF hmix 9 Tryz.func28 rfl rfl (by decide) [(53, .c HX), (80, .c Ux)] (fun _ => rfl) (fun _ => rfl) (fun _ _ => rfl) (fun (x : Rat) (y : Rat) b hx hp => qY (Dr (Bnds.h2 hx).1 (Bnds.h2 hx).2)) (fun (x : Rat) (y : Rat) hx hp => by
 exact ⟨.nil, kcast (by kernel_rfl) ((by rw [Rat.sub_eq_add_neg] : x + (-y) = x - y))⟩)
abbrev Cs : Ctr Tryz.prog := FI.c UE
abbrev Uv : FI := ⟨27, [.rat, .rat], [(.n 68719476736), (.n 68719476736)], fun _ => [], fun b z => (fun (x : Rat) (y : Rat) => .c (.agg [.dt .rat (.n ((b0 b).nb + (b1 b).nb)) (x * y)])) z.1 z.2⟩
theorem Uw : Uv.OK Tryz.prog := mkF hmix 21 Tryz.func27 rfl rfl (by decide) [(77, .c Aj), (78, .c Cq), (79, .c EB)] (fun _ => rfl) (fun _ => rfl) (fun _ _ => rfl) (fun (x : Rat) (y : Rat) b hx hp => qY (Ar (Bnds.h2 hx).1 (Bnds.h2 hx).2)) (fun (x : Rat) (y : Rat) hx hp => by
 have hqp := Nat.mul_pos (Nat.pos_of_ne_zero x.den_nz) (Nat.pos_of_ne_zero y.den_nz)
 exact ⟨.nil, kcast (by kernel_rfl) (have hqx := Nat.pos_of_ne_zero x.den_nz; have hqy := Nat.pos_of_ne_zero y.den_nz; have hqp := Nat.mul_pos hqx hqy; I (hqp : 0 < x.den * y.den) ((zr x y : sgQ (decide ((decide (x.num < 0)) ≠ (decide (y.num < 0)))) (x.num.natAbs * y.num.natAbs) (x.den * y.den) = x * y)))⟩)
abbrev Cr : Ctr Tryz.prog := FI.c Uw
abbrev UA : FI := ⟨86, [.rat, .rat], [(.n 68719476736), (.n 68719476736)], fun _ => [], fun b z => (fun (x : Rat) (y : Rat) => .tup [.agg [.dt .rat (.n ((b0 b).nb + (b1 b).nb)) (x / y)], .one (.dt (.int .i64) (.n 3) (quoC y))]) z.1 z.2⟩
theorem UB : UA.OK Tryz.prog := mkF hmix 27 Tryz.func86 rfl rfl (by decide) [(77, .c Aj), (78, .c Cq), (79, .c EB)] (fun _ => rfl) (fun _ => rfl) (fun _ _ => rfl) (fun (x : Rat) (y : Rat) b hx hp => qF (qY (CQ (Bnds.h2 hx).1 (Bnds.h2 hx).2)) (qF (qc (Lf y) rfl) jv)) (fun (x : Rat) (y : Rat) hx hp => by
 exact ⟨.nil, kcast (by kernel_rfl) (And.intro (fun (h1 : (limbs y.num.natAbs).length = 0) => And.intro (Od (nl0.1 (by assumption)) : 0 = x / y) ((if_pos (nl0.1 (by assumption))).symm : 3 = quoC y)) (fun (h2 : ¬ ((limbs y.num.natAbs).length = 0)) => have hy0 := (mt nl0.2 (by assumption) : ¬ y.num.natAbs = 0); I (Nat.mul_pos (Nat.pos_of_ne_zero x.den_nz) (Nat.pos_of_ne_zero hy0) : 0 < x.den * y.num.natAbs) (And.intro (zy hy0 : sgQ (decide ((decide (x.num < 0)) ≠ (decide (y.num < 0)))) (x.num.natAbs * y.den) (x.den * y.num.natAbs) = x / y) ((if_neg hy0).symm : 0 = quoC y))))⟩)
abbrev M5 : Ctr Tryz.prog := FI.c UB
abbrev RF : FI := ⟨151, [.rat, .rat], [(.n 68719476736), (.n 68719476736)], fun _ => [], fun b z => (fun (x : Rat) (y : Rat) => .c (.agg [.dt .rat (.n ((b0 b).nb + (b1 b).nb)) (x / y)])) z.1 z.2⟩
theorem RG : RF.OK Tryz.prog := mkF hmix 14 Tryz.func151 rfl rfl (by decide) [(86, .c M5)] (fun _ => rfl) (fun _ => rfl) (fun _ _ => rfl) (fun (x : Rat) (y : Rat) b hx hp => qY (CQ (Bnds.h2 hx).1 (Bnds.h2 hx).2)) (fun (x : Rat) (y : Rat) hx hp => by
 exact ⟨.nil, kcast (by kernel_rfl) ((Eq.refl (x / y)))⟩)
abbrev RE : Ctr Tryz.prog := FI.c RG
abbrev Um : FI := ⟨32, [.rat, .rat], [(.n 68719476736), (.n 68719476736)], fun _ => [], fun b z => (fun (x : Rat) (y : Rat) => .c (.one (.dt (.int .i64) (.n 1) (cmpQ x y)))) z.1 z.2⟩
theorem Un : Um.OK Tryz.prog := mkF hmix 34 Tryz.func32 rfl rfl (by decide) [(16, .c D2), (78, .c Cq), (79, .c EB), (82, .c Cp)] (fun _ => rfl) (fun _ => rfl) (fun _ _ => rfl) (fun (x : Rat) (y : Rat) b hx hp => qc (zF x y) rfl) (fun (x : Rat) (y : Rat) hx hp => by
 exact ⟨.nil, kcast (by kernel_rfl) (And.intro (fun (h1 : sgnQ x ≠ sgnQ y) => And.intro (fun (h2 : sgnQ x < sgnQ y) => (by first | exact ((qK (by assumption)).1 (by assumption)).symm | exact ((qK (by assumption)).2 (by assumption)).symm | exact (jg hs (by assumption)).symm | exact (jh hs (by assumption)).symm : (-1) = cmpQ x y)) (fun (h3 : ¬ (sgnQ x < sgnQ y)) => (by first | exact ((qK (by assumption)).1 (by assumption)).symm | exact ((qK (by assumption)).2 (by assumption)).symm | exact (jg hs (by assumption)).symm | exact (jh hs (by assumption)).symm : 1 = cmpQ x y))) (fun (h4 : ¬ (sgnQ x ≠ sgnQ y)) => have hs := (show sgnQ x = sgnQ y by omega); And.intro (fun (h5 : x.num < 0) => (by first | exact ((qK (by assumption)).1 (by assumption)).symm | exact ((qK (by assumption)).2 (by assumption)).symm | exact (jg hs (by assumption)).symm | exact (jh hs (by assumption)).symm : -(cmpN (x.num.natAbs * y.den) (y.num.natAbs * x.den)) = cmpQ x y)) (fun (h6 : ¬ (x.num < 0)) => (by first | exact ((qK (by assumption)).1 (by assumption)).symm | exact ((qK (by assumption)).2 (by assumption)).symm | exact (jg hs (by assumption)).symm | exact (jh hs (by assumption)).symm : cmpN (x.num.natAbs * y.den) (y.num.natAbs * x.den) = cmpQ x y))))⟩)
abbrev HY : Ctr Tryz.prog := FI.c Un
abbrev Ut : FI := ⟨84, [.rat, .rat], [(.n 68719476736), (.n 68719476736)], fun _ => [], fun b z => (fun (x : Rat) (y : Rat) => .c (.agg [.dt .rat (.n (max (b0 b).nb (b1 b).nb)) (minQ x y)])) z.1 z.2⟩
theorem Uu : Ut.OK Tryz.prog := mkF hmix 11 Tryz.func84 rfl rfl (by decide) [(32, .c HY)] (fun _ => rfl) (fun _ => rfl) (fun _ _ => rfl) (fun (x : Rat) (y : Rat) b hx hp => qY (Bs (Bnds.h2 hx).1 (Bnds.h2 hx).2)) (fun (x : Rat) (y : Rat) hx hp => by
 exact ⟨.nil, kcast (by kernel_rfl) (And.intro (fun (h1 : cmpQ y x < 0) => (by first | exact (if_pos (by assumption)).symm | exact (if_neg (by assumption)).symm : y = minQ x y)) (fun (h2 : ¬ (cmpQ y x < 0)) => (by first | exact (if_pos (by assumption)).symm | exact (if_neg (by assumption)).symm : x = minQ x y)))⟩)
abbrev Us : Ctr Tryz.prog := FI.c Uu
abbrev NB : FI := ⟨210, [(.pr .rat (.pr .rat .rat)), (.pr .rat (.pr .rat .rat))], [(.p (.n 4294967296) (.p (.n 4294967296) (.n 4294967296))), (.p (.n 4294967296) (.p (.n 4294967296) (.n 4294967296)))], fun _ => [], fun b z => (fun (p : Rat × Rat × Rat) (q : Rat × Rat × Rat) => .c (.one (.dt .bool .u (decide (p = q))))) z.1 z.2⟩
theorem NC : NB.OK Tryz.prog := mkF hmix 18 Tryz.func210 rfl rfl (by decide) [(260, .c Qv)] (fun _ => rfl) (fun _ => rfl) (fun _ _ => rfl) (fun (p : Rat × Rat × Rat) (q : Rat × Rat × Rat) b hx hp => qc trivial rfl) (fun (p : Rat × Rat × Rat) (q : Rat × Rat × Rat) hx hp => by
 exact ⟨.nil, kcast (by kernel_rfl) (And.intro (fun (h1 : (!(decide (p.1 = q.1))) = true) => (Ev (.inl (nd h1)) : false = decide (p = q))) (fun (h2 : ¬ ((!(decide (p.1 = q.1))) = true)) => And.intro (fun (h3 : (!(decide (p.2.1 = q.2.1))) = true) => (Ev (.inr (.inl (nd h3))) : false = decide (p = q))) (fun (h4 : ¬ ((!(decide (p.2.1 = q.2.1))) = true)) => And.intro (fun (h5 : (!(decide (p.2.2 = q.2.2))) = true) => (Ev (.inr (.inr (nd h5))) : false = decide (p = q))) (fun (h6 : ¬ ((!(decide (p.2.2 = q.2.2))) = true)) => (TZ (nd' h2) (nd' h4) (nd' h6) : true = decide (p = q))))))⟩)
abbrev Hz : Ctr Tryz.prog := FI.c NC
abbrev ND : FI := ⟨55, [(.pr .rat (.pr .rat .rat)), (.pr .rat (.pr .rat .rat))], [(.p (.n 4294967296) (.p (.n 4294967296) (.n 4294967296))), (.p (.n 4294967296) (.p (.n 4294967296) (.n 4294967296)))], fun _ => [], fun b z => (fun (p : Rat × Rat × Rat) (q : Rat × Rat × Rat) => .c (.one (.dt .bool .u (decide (p = q))))) z.1 z.2⟩
theorem NE : ND.OK Tryz.prog := mkF hmix 24 Tryz.func55 rfl rfl (by decide) [(30, .c Fk)] (fun _ => rfl) (fun _ => rfl) (fun _ _ => rfl) (fun (p : Rat × Rat × Rat) (q : Rat × Rat × Rat) b hx hp => qc trivial rfl) (fun (p : Rat × Rat × Rat) (q : Rat × Rat × Rat) hx hp => by
 exact ⟨.nil, kcast (by kernel_rfl) (And.intro (fun (h1 : decide (p.1 = q.1) = true) => And.intro (fun (h2 : decide (p.2.1 = q.2.1) = true) => (by rw [decide_eq_decide, vx]; exact ⟨fun h => ⟨(yd h1), (yd h2), h⟩, fun h => h.2.2⟩ : decide (p.2.2 = q.2.2) = decide (p = q))) (fun (h3 : ¬ (decide (p.2.1 = q.2.1) = true)) => (Ev (.inr (.inl (yd' h3))) : false = decide (p = q)))) (fun (h4 : ¬ (decide (p.1 = q.1) = true)) => (Ev (.inl (yd' h4)) : false = decide (p = q))))⟩)
abbrev HA : Ctr Tryz.prog := FI.c NE
abbrev NK : FI := ⟨135, [(.pr .rat (.pr .rat .rat))], [(.p (.n 4294967296) (.p (.n 4294967296) (.n 4294967296)))], fun _ => [], fun b z => (fun (p : Rat × Rat × Rat) => .c (.one (.dt .bool .u (decide (p = (0, 0, 0)))))) z⟩
theorem NL : NK.OK Tryz.prog := mkF hmix 6 Tryz.func135 rfl rfl (by decide) [(210, .c Hz)] (fun _ => rfl) (fun _ => rfl) (fun _ _ => rfl) (fun (p : Rat × Rat × Rat) b hx hp => qc trivial rfl) (fun (p : Rat × Rat × Rat) hx hp => by
 exact ⟨.nil, kcast (by kernel_rfl) ((Eq.refl (decide (p = (0, 0, 0)))))⟩)
abbrev Dv : Ctr Tryz.prog := FI.c NL
abbrev NN : FI := ⟨126, [(.pr .rat (.pr .rat .rat))], [(.p (.n 4294967296) (.p (.n 4294967296) (.n 4294967296)))], fun _ => [], fun b z => (fun (p : Rat × Rat × Rat) => .c (.one (.dt .bool .u (decide (p = (0, 0, 0)))))) z⟩
theorem NO : NN.OK Tryz.prog := mkF hmix 6 Tryz.func126 rfl rfl (by decide) [(55, .c HA)] (fun _ => rfl) (fun _ => rfl) (fun _ _ => rfl) (fun (p : Rat × Rat × Rat) b hx hp => qc trivial rfl) (fun (p : Rat × Rat × Rat) hx hp => by
 exact ⟨.nil, kcast (by kernel_rfl) ((Eq.refl (decide (p = (0, 0, 0)))))⟩)
abbrev NM : Ctr Tryz.prog := FI.c NO
abbrev Kp : FI := ⟨204, [(.pr .rat (.pr .rat .rat)), (.pr .rat (.pr .rat .rat)), (.fn 139)], [(.p (.n 4294967296) (.p (.n 4294967296) (.n 4294967296))), (.p (.n 4294967296) (.p (.n 4294967296) (.n 4294967296))), .u], fun _ => [], fun b z => (fun (p : Rat × Rat × Rat) (q : Rat × Rat × Rat) (u : Unit) => .c (.agg [.dt tV3 (bV3 ((b0 b).mx + (b1 b).mx + 1)) (addV p q)])) z.1 z.2.1 z.2.2⟩
theorem Kq : Kp.OK Tryz.prog := mkF hmix 24 Tryz.func204 rfl rfl (by decide) [(139, .c IF)] (fun _ => rfl) (fun _ => rfl) (fun _ _ => rfl) (fun (p : Rat × Rat × Rat) (q : Rat × Rat × Rat) (u : Unit) b hx hp => vH (DD (Bnds.h3 hx).1 (Bnds.h3 hx).2.1)) (fun (p : Rat × Rat × Rat) (q : Rat × Rat × Rat) (u : Unit) hx hp => by
 exact ⟨.nil, kcast (by kernel_rfl) ((rfl : (p.1 + q.1, p.2.1 + q.2.1, p.2.2 + q.2.2) = addV p q))⟩)
abbrev Ko : Ctr Tryz.prog := FI.c Kq
abbrev Kt : FI := ⟨204, [(.pr .rat (.pr .rat .rat)), (.pr .rat (.pr .rat .rat)), (.fn 74)], [(.p (.n 4294967296) (.p (.n 4294967296) (.n 4294967296))), (.p (.n 4294967296) (.p (.n 4294967296) (.n 4294967296))), .u], fun _ => [], fun b z => (fun (p : Rat × Rat × Rat) (q : Rat × Rat × Rat) (u : Unit) => .c (.agg [.dt tV3 (bV3 ((b0 b).mx + (b1 b).mx)) (mulV p q)])) z.1 z.2.1 z.2.2⟩
theorem Ku : Kt.OK Tryz.prog := mkF hmix 24 Tryz.func204 rfl rfl (by decide) [(74, .c Ej)] (fun _ => rfl) (fun _ => rfl) (fun _ _ => rfl) (fun (p : Rat × Rat × Rat) (q : Rat × Rat × Rat) (u : Unit) b hx hp => vH (SM (Bnds.h3 hx).1 (Bnds.h3 hx).2.1)) (fun (p : Rat × Rat × Rat) (q : Rat × Rat × Rat) (u : Unit) hx hp => by
 exact ⟨.nil, kcast (by kernel_rfl) ((rfl : (p.1 * q.1, p.2.1 * q.2.1, p.2.2 * q.2.2) = mulV p q))⟩)
abbrev Kr : Ctr Tryz.prog := FI.c Ku
abbrev R4 : FI := ⟨129, [(.pr .rat (.pr .rat .rat)), (.pr .rat (.pr .rat .rat))], [(.p (.n 4294967296) (.p (.n 4294967296) (.n 4294967296))), (.p (.n 4294967296) (.p (.n 4294967296) (.n 4294967296)))], fun _ => [], fun b z => (fun (p : Rat × Rat × Rat) (q : Rat × Rat × Rat) => .c (.agg [.dt tV3 (bV3 ((b0 b).mx + (b1 b).mx + 1)) (addV p q)])) z.1 z.2⟩
theorem R5 : R4.OK Tryz.prog := mkF hmix 8 Tryz.func129 rfl rfl (by decide) [(204, .c Ko)] (fun _ => rfl) (fun _ => rfl) (fun _ _ => rfl) (fun (p : Rat × Rat × Rat) (q : Rat × Rat × Rat) b hx hp => vH (DD (Bnds.h2 hx).1 (Bnds.h2 hx).2)) (fun (p : Rat × Rat × Rat) (q : Rat × Rat × Rat) hx hp => by
 exact ⟨.nil, kcast (by kernel_rfl) ((Eq.refl (addV p q)))⟩)
abbrev IS : Ctr Tryz.prog := FI.c R5
abbrev R6 : FI := ⟨21, [(.pr .rat (.pr .rat .rat)), (.pr .rat (.pr .rat .rat))], [(.p (.n 4294967296) (.p (.n 4294967296) (.n 4294967296))), (.p (.n 4294967296) (.p (.n 4294967296) (.n 4294967296)))], fun _ => [], fun b z => (fun (p : Rat × Rat × Rat) (q : Rat × Rat × Rat) => .c (.agg [.dt tV3 (bV3 ((b0 b).mx + (b1 b).mx + 1)) (addV p q)])) z.1 z.2⟩
theorem R7 : R6.OK Tryz.prog := mkF hmix 20 Tryz.func21 rfl rfl (by decide) [(53, .c HX)] (fun _ => rfl) (fun _ => rfl) (fun _ _ => rfl) (fun (p : Rat × Rat × Rat) (q : Rat × Rat × Rat) b hx hp => vH (DD (Bnds.h2 hx).1 (Bnds.h2 hx).2)) (fun (p : Rat × Rat × Rat) (q : Rat × Rat × Rat) hx hp => by
 exact ⟨.nil, kcast (by kernel_rfl) ((rfl : (p.1 + q.1, p.2.1 + q.2.1, p.2.2 + q.2.2) = addV p q))⟩)
abbrev IT : Ctr Tryz.prog := FI.c R7
abbrev LR : FI := ⟨130, [.rat, (.pr .rat (.pr .rat .rat))], [(.n 4294967296), (.p (.n 4294967296) (.p (.n 4294967296) (.n 4294967296)))], fun _ => [], fun b z => (fun (r : Rat) (q : Rat × Rat × Rat) => .c (.agg [.dt tV3 (bV3 ((b0 b).mx + (b1 b).mx)) (qb r q)])) z.1 z.2⟩
theorem LS : LR.OK Tryz.prog := mkF hmix 11 Tryz.func130 rfl rfl (by decide) [] (fun _ => rfl) (fun _ => rfl) (fun _ _ => rfl) (fun (r : Rat) (q : Rat × Rat × Rat) b hx hp => vH (Do (Bnds.h2 hx).1 (Bnds.h2 hx).2)) (fun (r : Rat) (q : Rat × Rat × Rat) hx hp => by
 exact ⟨.h 1 5 (.c Kr) (.nil), kcast (by kernel_rfl) ((rfl : mulV (r, r, r) q = qb r q))⟩)
abbrev Co : Ctr Tryz.prog := FI.c LS
abbrev LT : FI := ⟨22, [.rat, (.pr .rat (.pr .rat .rat))], [(.n 4294967296), (.p (.n 4294967296) (.p (.n 4294967296) (.n 4294967296)))], fun _ => [], fun b z => (fun (r : Rat) (q : Rat × Rat × Rat) => .c (.agg [.dt tV3 (bV3 ((b0 b).mx + (b1 b).mx)) (qb r q)])) z.1 z.2⟩
theorem LU : LT.OK Tryz.prog := mkF hmix 18 Tryz.func22 rfl rfl (by decide) [(27, .c Cr)] (fun _ => rfl) (fun _ => rfl) (fun _ _ => rfl) (fun (r : Rat) (q : Rat × Rat × Rat) b hx hp => vH (Do (Bnds.h2 hx).1 (Bnds.h2 hx).2)) (fun (r : Rat) (q : Rat × Rat × Rat) hx hp => by
 exact ⟨.nil, kcast (by kernel_rfl) ((rfl : (r * q.1, r * q.2.1, r * q.2.2) = qb r q))⟩)
abbrev FZ : Ctr Tryz.prog := FI.c LU
abbrev R8 : FI := ⟨72, [(.pr .rat (.pr .rat .rat)), (.pr .rat (.pr .rat .rat))], [(.p (.n 4294967296) (.p (.n 4294967296) (.n 4294967296))), (.p (.n 4294967296) (.p (.n 4294967296) (.n 4294967296)))], fun _ => [], fun b z => (fun (p : Rat × Rat × Rat) (q : Rat × Rat × Rat) => .c (.agg [.dt .rat (.n (3 * ((b0 b).mx + (b1 b).mx) + 2)) (dotQ p q)])) z.1 z.2⟩
theorem R9 : R8.OK Tryz.prog := mkF hmix 21 Tryz.func72 rfl rfl (by decide) [(74, .c Ej), (139, .c IF)] (fun _ => rfl) (fun _ => rfl) (fun _ _ => rfl) (fun (p : Rat × Rat × Rat) (q : Rat × Rat × Rat) b hx hp => jq (GE (Bnds.h2 hx).1 (Bnds.h2 hx).2)) (fun (p : Rat × Rat × Rat) (q : Rat × Rat × Rat) hx hp => by
 exact ⟨.nil, kcast (by kernel_rfl) ((by rw [Rat.zero_add]; rfl : ((0 + (p.1 * q.1)) + (p.2.1 * q.2.1)) + (p.2.2 * q.2.2) = dotQ p q))⟩)
abbrev ww : Ctr Tryz.prog := FI.c R9
abbrev Ra : FI := ⟨33, [(.pr .rat (.pr .rat .rat)), (.pr .rat (.pr .rat .rat))], [(.p (.n 4294967296) (.p (.n 4294967296) (.n 4294967296))), (.p (.n 4294967296) (.p (.n 4294967296) (.n 4294967296)))], fun _ => [], fun b z => (fun (p : Rat × Rat × Rat) (q : Rat × Rat × Rat) => .c (.agg [.dt .rat (.n (3 * ((b0 b).mx + (b1 b).mx) + 2)) (dotQ p q)])) z.1 z.2⟩
theorem Rb : Ra.OK Tryz.prog := mkF hmix 21 Tryz.func33 rfl rfl (by decide) [(27, .c Cr), (53, .c HX)] (fun _ => rfl) (fun _ => rfl) (fun _ _ => rfl) (fun (p : Rat × Rat × Rat) (q : Rat × Rat × Rat) b hx hp => jq (GE (Bnds.h2 hx).1 (Bnds.h2 hx).2)) (fun (p : Rat × Rat × Rat) (q : Rat × Rat × Rat) hx hp => by
 exact ⟨.nil, kcast (by kernel_rfl) ((by rw [Rat.zero_add]; rfl : ((0 + (p.1 * q.1)) + (p.2.1 * q.2.1)) + (p.2.2 * q.2.2) = dotQ p q))⟩)
abbrev wx : Ctr Tryz.prog := FI.c Rb
abbrev LM : FI := ⟨136, [(.pr .rat (.pr .rat .rat)), (.pr .rat (.pr .rat .rat))], [(.p (.n 4294967296) (.p (.n 4294967296) (.n 4294967296))), (.p (.n 4294967296) (.p (.n 4294967296) (.n 4294967296)))], fun _ => [], fun b z => (fun (p : Rat × Rat × Rat) (q : Rat × Rat × Rat) => .c (.agg [.dt tV3 (bV3 (2 * ((b0 b).mx + (b1 b).mx) + 1)) (qh p q)])) z.1 z.2⟩
theorem LN : LM.OK Tryz.prog := mkF hmix 37 Tryz.func136 rfl rfl (by decide) [(71, .c Ek), (74, .c Ej)] (fun _ => rfl) (fun _ => rfl) (fun _ _ => rfl) (fun (p : Rat × Rat × Rat) (q : Rat × Rat × Rat) b hx hp => vH (De (Bnds.h2 hx).1 (Bnds.h2 hx).2)) (fun (p : Rat × Rat × Rat) (q : Rat × Rat × Rat) hx hp => by
 exact ⟨.nil, kcast (by kernel_rfl) ((rfl : ((p.2.1 * q.2.2) - (p.2.2 * q.2.1), (p.2.2 * q.1) - (p.1 * q.2.2), (p.1 * q.2.1) - (p.2.1 * q.1)) = qh p q))⟩)
abbrev Ah : Ctr Tryz.prog := FI.c LN
abbrev LO : FI := ⟨118, [(.pr .rat (.pr .rat .rat)), (.pr .rat (.pr .rat .rat))], [(.p (.n 4294967296) (.p (.n 4294967296) (.n 4294967296))), (.p (.n 4294967296) (.p (.n 4294967296) (.n 4294967296)))], fun _ => [], fun b z => (fun (p : Rat × Rat × Rat) (q : Rat × Rat × Rat) => .c (.agg [.dt tV3 (bV3 (2 * ((b0 b).mx + (b1 b).mx) + 1)) (qh p q)])) z.1 z.2⟩
theorem LP : LO.OK Tryz.prog := mkF hmix 37 Tryz.func118 rfl rfl (by decide) [(27, .c Cr), (28, .c Cs)] (fun _ => rfl) (fun _ => rfl) (fun _ _ => rfl) (fun (p : Rat × Rat × Rat) (q : Rat × Rat × Rat) b hx hp => vH (De (Bnds.h2 hx).1 (Bnds.h2 hx).2)) (fun (p : Rat × Rat × Rat) (q : Rat × Rat × Rat) hx hp => by
 exact ⟨.nil, kcast (by kernel_rfl) ((rfl : ((p.2.1 * q.2.2) - (p.2.2 * q.2.1), (p.2.2 * q.1) - (p.1 * q.2.2), (p.1 * q.2.1) - (p.2.1 * q.1)) = qh p q))⟩)
abbrev Cn : Ctr Tryz.prog := FI.c LP
abbrev Tg : FI := ⟨194, [.rat], [(.n 1099511627776)], fun _ => [], fun b z => (fun (x : Rat) => .c (.agg [.dt .rat (b0 b) x])) z⟩
theorem Th : Tg.OK Tryz.prog := mkF hmix 12 Tryz.func194 rfl rfl (by decide) [(209, .c B4)] (fun _ => rfl) (fun _ => rfl) (fun _ _ => rfl) (fun (x : Rat) b hx hp => jq (Bnds.h1 hx)) (fun (x : Rat) hx hp => by
 have hx0 : Bnd .rat (.n 1099511627776) x := hx
 exact ⟨.h 1 7 (.c wB) (.h 1 8 (.rat x 1099511627776) (.nil)), kcast (by kernel_rfl) (I (Eq.refl (decide (x.num < 0))) (I (Eq.refl x.num.natAbs) (I (Eq.refl (denL x.den)) (I (hx0.1 : lt2 x.num.natAbs 1099511627776) (I (hx0.2 : le2 x.den 1099511627776) ((Eq.refl x)))))))⟩)
abbrev Tf : Ctr Tryz.prog := FI.c Th
abbrev N0 : FI := ⟨122, [(.pr .rat (.pr .rat .rat))], [(.p (.n 1099511627776) (.p (.n 1099511627776) (.n 1099511627776)))], fun _ => [], fun b z => (fun (x : Rat × Rat × Rat) => .c (.agg [.dt tV3 (b0 b) x])) z⟩
theorem N1 : N0.OK Tryz.prog := mkF hmix 13 Tryz.func122 rfl rfl (by decide) [(194, .c Tf)] (fun _ => rfl) (fun _ => rfl) (fun _ _ => rfl) (fun (x : Rat × Rat × Rat) b hx hp => jq (Bnds.h1 hx)) (fun (x : Rat × Rat × Rat) hx hp => by
 exact ⟨.nil, kcast (by kernel_rfl) ((rfl : (x.1, x.2.1, x.2.2) = x))⟩)
abbrev MZ : Ctr Tryz.prog := FI.c N1
abbrev P0 : FB := ⟨19, (.pr (.sl (.int .i64)) (.nat .i64)), (.p (.s 1048576 (.n 9223372036854775808)) (.n 1048576)), [], [], fun s z => [], fun tb b s z => .c (.agg [.dt tV3 (bV3 (5)) (qX s)]), fun s z => qd s, fun tb b => .p tb.l (.n (max tb.r.nb tb.l.len))⟩
theorem P1 : P0.OK Tryz.prog := mkB' hmix 22 Tryz.func19 rfl rfl (by decide) [(20, .b Ii), (24, .b Cw), (29, .c EC), (75, .c Fj)] (fun _ => rfl) (fun _ _ => rfl) (fun _ _ _ _ => rfl) (fun (s : List Int × Nat)  tb b hs hx hp => ⟨vH (CW s), QV hs⟩) (fun (s : List Int × Nat)  hs hx hp => by
 exact ⟨.nil, kcast (by kernel_rfl) (I (by omega : (0 : Int) < 5) (I (by omega : (0 : Int) < 4) (And.intro (fun (h1 : decide (q7 (q6 s) 4 = 4 - 1) = true) => I (by omega : (0 : Int) < 9) (I (by omega : (0 : Int) < 5) (I (by omega : (0 : Int) < 4) (And.intro (fun (h2 : decide (q7 (q6 (q6 (q6 (q6 s)))) 4 = 4 - 1) = true) => I (by omega : (0 : Int) < 9) (I (by omega : (0 : Int) < 5) (I (by omega : (0 : Int) < 4) (And.intro (fun (h3 : decide (q7 (q6 (q6 (q6 (q6 (q6 (q6 (q6 s))))))) 4 = 4 - 1) = true) => I (by omega : (0 : Int) < 9) (And.intro (by unfold qd oneS; simp only [if_pos (show q7 (q6 s) 4 = 3 from (yd h1)), if_pos (show q7 (q6 (q6 (q6 (q6 s)))) 4 = 3 from (yd h2)), if_pos (show q7 (q6 (q6 (q6 (q6 (q6 (q6 (q6 s))))))) 4 = 3 from (yd h3))] : q6 (q6 (q6 (q6 (q6 (q6 (q6 (q6 (q6 s)))))))) = qd s) ((by unfold qX oneV oneS; simp only [if_pos (show q7 (q6 s) 4 = 3 from (yd h1)), if_pos (show q7 (q6 (q6 (q6 (q6 s)))) 4 = 3 from (yd h2)), if_pos (show q7 (q6 (q6 (q6 (q6 (q6 (q6 (q6 s))))))) 4 = 3 from (yd h3))] : (((q7 (q6 (q6 s)) 9 : Int) : Rat) / ((2 : Int) : Rat), ((q7 (q6 (q6 (q6 (q6 (q6 s))))) 9 : Int) : Rat) / ((2 : Int) : Rat), ((q7 (q6 (q6 (q6 (q6 (q6 (q6 (q6 (q6 s)))))))) 9 : Int) : Rat) / ((2 : Int) : Rat)) = qX s)))) (fun (h4 : ¬ (decide (q7 (q6 (q6 (q6 (q6 (q6 (q6 (q6 s))))))) 4 = 4 - 1) = true)) => And.intro (by unfold qd oneS; simp only [if_pos (show q7 (q6 s) 4 = 3 from (yd h1)), if_pos (show q7 (q6 (q6 (q6 (q6 s)))) 4 = 3 from (yd h2)), if_neg (show ¬ q7 (q6 (q6 (q6 (q6 (q6 (q6 (q6 s))))))) 4 = 3 from (yd' h4))] : q6 (q6 (q6 (q6 (q6 (q6 (q6 (q6 s))))))) = qd s) ((by unfold qX oneV oneS; simp only [if_pos (show q7 (q6 s) 4 = 3 from (yd h1)), if_pos (show q7 (q6 (q6 (q6 (q6 s)))) 4 = 3 from (yd h2)), if_neg (show ¬ q7 (q6 (q6 (q6 (q6 (q6 (q6 (q6 s))))))) 4 = 3 from (yd' h4))] : (((q7 (q6 (q6 s)) 9 : Int) : Rat) / ((2 : Int) : Rat), ((q7 (q6 (q6 (q6 (q6 (q6 s))))) 9 : Int) : Rat) / ((2 : Int) : Rat), ((q7 (q6 (q6 (q6 (q6 (q6 (q6 s)))))) 5 : Int) : Rat)) = qX s))))))) (fun (h5 : ¬ (decide (q7 (q6 (q6 (q6 (q6 s)))) 4 = 4 - 1) = true)) => I (by omega : (0 : Int) < 5) (I (by omega : (0 : Int) < 4) (And.intro (fun (h6 : decide (q7 (q6 (q6 (q6 (q6 (q6 (q6 s)))))) 4 = 4 - 1) = true) => I (by omega : (0 : Int) < 9) (And.intro (by unfold qd oneS; simp only [if_pos (show q7 (q6 s) 4 = 3 from (yd h1)), if_neg (show ¬ q7 (q6 (q6 (q6 (q6 s)))) 4 = 3 from (yd' h5)), if_pos (show q7 (q6 (q6 (q6 (q6 (q6 (q6 s)))))) 4 = 3 from (yd h6))] : q6 (q6 (q6 (q6 (q6 (q6 (q6 (q6 s))))))) = qd s) ((by unfold qX oneV oneS; simp only [if_pos (show q7 (q6 s) 4 = 3 from (yd h1)), if_neg (show ¬ q7 (q6 (q6 (q6 (q6 s)))) 4 = 3 from (yd' h5)), if_pos (show q7 (q6 (q6 (q6 (q6 (q6 (q6 s)))))) 4 = 3 from (yd h6))] : (((q7 (q6 (q6 s)) 9 : Int) : Rat) / ((2 : Int) : Rat), ((q7 (q6 (q6 (q6 s))) 5 : Int) : Rat), ((q7 (q6 (q6 (q6 (q6 (q6 (q6 (q6 s))))))) 9 : Int) : Rat) / ((2 : Int) : Rat)) = qX s)))) (fun (h7 : ¬ (decide (q7 (q6 (q6 (q6 (q6 (q6 (q6 s)))))) 4 = 4 - 1) = true)) => And.intro (by unfold qd oneS; simp only [if_pos (show q7 (q6 s) 4 = 3 from (yd h1)), if_neg (show ¬ q7 (q6 (q6 (q6 (q6 s)))) 4 = 3 from (yd' h5)), if_neg (show ¬ q7 (q6 (q6 (q6 (q6 (q6 (q6 s)))))) 4 = 3 from (yd' h7))] : q6 (q6 (q6 (q6 (q6 (q6 (q6 s)))))) = qd s) ((by unfold qX oneV oneS; simp only [if_pos (show q7 (q6 s) 4 = 3 from (yd h1)), if_neg (show ¬ q7 (q6 (q6 (q6 (q6 s)))) 4 = 3 from (yd' h5)), if_neg (show ¬ q7 (q6 (q6 (q6 (q6 (q6 (q6 s)))))) 4 = 3 from (yd' h7))] : (((q7 (q6 (q6 s)) 9 : Int) : Rat) / ((2 : Int) : Rat), ((q7 (q6 (q6 (q6 s))) 5 : Int) : Rat), ((q7 (q6 (q6 (q6 (q6 (q6 s))))) 5 : Int) : Rat)) = qX s)))))))))) (fun (h8 : ¬ (decide (q7 (q6 s) 4 = 4 - 1) = true)) => I (by omega : (0 : Int) < 5) (I (by omega : (0 : Int) < 4) (And.intro (fun (h9 : decide (q7 (q6 (q6 (q6 s))) 4 = 4 - 1) = true) => I (by omega : (0 : Int) < 9) (I (by omega : (0 : Int) < 5) (I (by omega : (0 : Int) < 4) (And.intro (fun (h10 : decide (q7 (q6 (q6 (q6 (q6 (q6 (q6 s)))))) 4 = 4 - 1) = true) => I (by omega : (0 : Int) < 9) (And.intro (by unfold qd oneS; simp only [if_neg (show ¬ q7 (q6 s) 4 = 3 from (yd' h8)), if_pos (show q7 (q6 (q6 (q6 s))) 4 = 3 from (yd h9)), if_pos (show q7 (q6 (q6 (q6 (q6 (q6 (q6 s)))))) 4 = 3 from (yd h10))] : q6 (q6 (q6 (q6 (q6 (q6 (q6 (q6 s))))))) = qd s) ((by unfold qX oneV oneS; simp only [if_neg (show ¬ q7 (q6 s) 4 = 3 from (yd' h8)), if_pos (show q7 (q6 (q6 (q6 s))) 4 = 3 from (yd h9)), if_pos (show q7 (q6 (q6 (q6 (q6 (q6 (q6 s)))))) 4 = 3 from (yd h10))] : (((q7 s 5 : Int) : Rat), ((q7 (q6 (q6 (q6 (q6 s)))) 9 : Int) : Rat) / ((2 : Int) : Rat), ((q7 (q6 (q6 (q6 (q6 (q6 (q6 (q6 s))))))) 9 : Int) : Rat) / ((2 : Int) : Rat)) = qX s)))) (fun (h11 : ¬ (decide (q7 (q6 (q6 (q6 (q6 (q6 (q6 s)))))) 4 = 4 - 1) = true)) => And.intro (by unfold qd oneS; simp only [if_neg (show ¬ q7 (q6 s) 4 = 3 from (yd' h8)), if_pos (show q7 (q6 (q6 (q6 s))) 4 = 3 from (yd h9)), if_neg (show ¬ q7 (q6 (q6 (q6 (q6 (q6 (q6 s)))))) 4 = 3 from (yd' h11))] : q6 (q6 (q6 (q6 (q6 (q6 (q6 s)))))) = qd s) ((by unfold qX oneV oneS; simp only [if_neg (show ¬ q7 (q6 s) 4 = 3 from (yd' h8)), if_pos (show q7 (q6 (q6 (q6 s))) 4 = 3 from (yd h9)), if_neg (show ¬ q7 (q6 (q6 (q6 (q6 (q6 (q6 s)))))) 4 = 3 from (yd' h11))] : (((q7 s 5 : Int) : Rat), ((q7 (q6 (q6 (q6 (q6 s)))) 9 : Int) : Rat) / ((2 : Int) : Rat), ((q7 (q6 (q6 (q6 (q6 (q6 s))))) 5 : Int) : Rat)) = qX s))))))) (fun (h12 : ¬ (decide (q7 (q6 (q6 (q6 s))) 4 = 4 - 1) = true)) => I (by omega : (0 : Int) < 5) (I (by omega : (0 : Int) < 4) (And.intro (fun (h13 : decide (q7 (q6 (q6 (q6 (q6 (q6 s))))) 4 = 4 - 1) = true) => I (by omega : (0 : Int) < 9) (And.intro (by unfold qd oneS; simp only [if_neg (show ¬ q7 (q6 s) 4 = 3 from (yd' h8)), if_neg (show ¬ q7 (q6 (q6 (q6 s))) 4 = 3 from (yd' h12)), if_pos (show q7 (q6 (q6 (q6 (q6 (q6 s))))) 4 = 3 from (yd h13))] : q6 (q6 (q6 (q6 (q6 (q6 (q6 s)))))) = qd s) ((by unfold qX oneV oneS; simp only [if_neg (show ¬ q7 (q6 s) 4 = 3 from (yd' h8)), if_neg (show ¬ q7 (q6 (q6 (q6 s))) 4 = 3 from (yd' h12)), if_pos (show q7 (q6 (q6 (q6 (q6 (q6 s))))) 4 = 3 from (yd h13))] : (((q7 s 5 : Int) : Rat), ((q7 (q6 (q6 s)) 5 : Int) : Rat), ((q7 (q6 (q6 (q6 (q6 (q6 (q6 s)))))) 9 : Int) : Rat) / ((2 : Int) : Rat)) = qX s)))) (fun (h14 : ¬ (decide (q7 (q6 (q6 (q6 (q6 (q6 s))))) 4 = 4 - 1) = true)) => And.intro (by unfold qd oneS; simp only [if_neg (show ¬ q7 (q6 s) 4 = 3 from (yd' h8)), if_neg (show ¬ q7 (q6 (q6 (q6 s))) 4 = 3 from (yd' h12)), if_neg (show ¬ q7 (q6 (q6 (q6 (q6 (q6 s))))) 4 = 3 from (yd' h14))] : q6 (q6 (q6 (q6 (q6 (q6 s))))) = qd s) ((by unfold qX oneV oneS; simp only [if_neg (show ¬ q7 (q6 s) 4 = 3 from (yd' h8)), if_neg (show ¬ q7 (q6 (q6 (q6 s))) 4 = 3 from (yd' h12)), if_neg (show ¬ q7 (q6 (q6 (q6 (q6 (q6 s))))) 4 = 3 from (yd' h14))] : (((q7 s 5 : Int) : Rat), ((q7 (q6 (q6 s)) 5 : Int) : Rat), ((q7 (q6 (q6 (q6 (q6 s)))) 5 : Int) : Rat)) = qX s))))))))))))⟩)
abbrev Io : CtrB Tryz.prog := FB.c P1
abbrev RZ : FI := ⟨54, [(.int .i64), (.int .i64), (.int .i64)], [(.n 1099511627776), (.n 1099511627776), (.n 1099511627776)], fun _ => [], fun b z => (fun (x : Int) (y : Int) (z : Int) => .c (.agg [.dt tV3 (bV3 (max (Nat.log2 (b0 b).nb + 1) (max (Nat.log2 (b1 b).nb + 1) (Nat.log2 (b2 b).nb + 1)))) ((x : Rat), (y : Rat), (z : Rat))])) z.1 z.2.1 z.2.2⟩
theorem S0 : RZ.OK Tryz.prog := mkF hmix 14 Tryz.func54 rfl rfl (by decide) [(29, .c EC)] (fun _ => rfl) (fun _ => rfl) (fun _ _ => rfl) (fun (x : Int) (y : Int) (z : Int) b hx hp => vH ⟨j4 (wr (Bnds.h3 hx).1.int) (by omega), j4 (wr (Bnds.h3 hx).2.1.int) (by omega), j4 (wr (Bnds.h3 hx).2.2.int) (by omega)⟩) (fun (x : Int) (y : Int) (z : Int) hx hp => by
 exact ⟨.nil, kcast (by kernel_rfl) ((rfl : ((x : Rat), (y : Rat), (z : Rat)) = (((x : Int) : Rat), ((y : Int) : Rat), ((z : Int) : Rat))))⟩)
abbrev RY : Ctr Tryz.prog := FI.c S0
theorem jJ (x : Rat) : 0 ≤ x * x := by
 rcases Rat.le_total (a := 0) (b := x) with h | h
 ·exact Rat.mul_nonneg h h
 ·have := Rat.mul_nonneg (show 0 ≤ -x by grind) (show 0 ≤ -x by grind); grind
theorem wF (v : V3) : 0 ≤ dotQ v v := by
 have h1 := jJ v.1; have h2 := jJ v.2.1; have h3 := jJ v.2.2
 unfold dotQ; grind
theorem Fd {x : Rat} (h : x * x = 0) : x = 0 := by
 rcases Rat.mul_eq_zero.1 h with h | h <;> exact h
theorem wG {v : V3} (h : dotQ v v = 0) : v = (0, 0, 0) := by
 have h1 := jJ v.1; have h2 := jJ v.2.1; have h3 := jJ v.2.2
 unfold dotQ at h
 have a := Fd (show v.1 * v.1 = 0 by grind); have b := Fd (show v.2.1 * v.2.1 = 0 by grind); have c := Fd (show v.2.2 * v.2.2 = 0 by grind)
 exact vx.2 ⟨a, b, c⟩
theorem div_eq {x y : Rat} (h : y ≠ 0) : x / y * y = x := Rat.div_mul_cancel h
theorem zY {x y : Rat} (h : 0 ≤ x) (k : 0 < y) : 0 ≤ x / y := by
 rcases Rat.le_total (a := 0) (b := x / y) with h1 | h1
 ·exact h1
 ·have e := div_eq (x := x) (y := y) (by grind)
  have := Rat.mul_nonneg (show 0 ≤ -(x / y) by grind) (Rat.le_of_lt k)
  have hx : x = 0 := by grind
  rw [hx, Rat.div_def, Rat.zero_mul]; exact Rat.le_refl
theorem Cv {x y : Rat} (h : x ≤ y) (k : 0 < y) : x / y ≤ 1 := by
 have e := div_eq (x := x) (y := y) (by grind)
 have e2 := zY (show 0 ≤ y - x by grind) k
 have e3 : (y - x) / y = 1 - x / y := by
  have q := div_eq (x := y - x) (y := y) (by grind)
  have : ((y - x) / y - (1 - x / y)) * y = 0 := by grind
  rcases Rat.mul_eq_zero.1 this with h | h <;> grind
 grind
def onS (a b : V3) (s : Rat) : V3 := addV a (qb s (subV b a))
def d2 (p q : V3) : Rat := dotQ (subV p q) (subV p q)
def segQ (a b p : V3) : Rat :=
 if dotQ (subV p a) (subV b a) ≤ 0 then d2 p a else if dotQ (subV b a) (subV b a) ≤ dotQ (subV p a) (subV b a) then d2 p b
 else d2 p (onS a b (dotQ (subV p a) (subV b a) / dotQ (subV b a) (subV b a)))
theorem Kf (a b p : V3) (s : Rat) : d2 p (onS a b s) = d2 p a - 2 * s * dotQ (subV p a) (subV b a) + s * s * dotQ (subV b a) (subV b a) := by
 obtain ⟨a1, a2, a3⟩ := a; obtain ⟨b1, b2, b3⟩ := b; obtain ⟨p1, p2, p3⟩ := p
 simp only [d2, onS, dotQ, subV, addV, qb]; grind
theorem d2_b (a b p : V3) : d2 p b = d2 p a - 2 * dotQ (subV p a) (subV b a) + dotQ (subV b a) (subV b a) := by
 obtain ⟨a1, a2, a3⟩ := a; obtain ⟨b1, b2, b3⟩ := b; obtain ⟨p1, p2, p3⟩ := p
 simp only [d2, dotQ, subV]; grind
theorem O3 (p q : V3) : 0 ≤ d2 p q := wF _
theorem TN {x n c s : Rat} (hn : 0 ≤ n) (h0 : 0 ≤ s) (h1 : s ≤ 1) : (if x ≤ 0 then c else if n ≤ x then c - 2 * x + n else c - 2 * (x / n) * x + x / n * (x / n) * n) ≤ c - 2 * s * x + s * s * n := by
 split
 ·have := Rat.mul_nonneg h0 (show 0 ≤ -x by grind); have := Rat.mul_nonneg (jJ s) hn; grind
 ·split
  ·have := Rat.mul_nonneg (show 0 ≤ 1 - s by grind) (show 0 ≤ x - n by grind)
   have := Rat.mul_nonneg (jJ (1 - s)) hn
   grind
  ·have hn0 : n ≠ 0 := by grind
   have e := div_eq (x := x) hn0
   generalize x / n = t at *
   have := Rat.mul_nonneg (jJ (s - t)) hn
   subst e
   grind
theorem Hk (a b p : V3) {s : Rat} (h0 : 0 ≤ s) (h1 : s ≤ 1) : segQ a b p ≤ d2 p (onS a b s) := by
 unfold segQ
 rw [Kf, Kf, d2_b a b p]
 exact TN (wF _) h0 h1
theorem Hl (a b p : V3) : 0 ≤ segQ a b p := by
 unfold segQ; split
 ·exact O3 _ _
 ·split <;> exact O3 _ _
theorem Az {x y : Rat} : 0 < cmpQ x y ↔ y < x := by unfold cmpQ; (repeat' split) <;> grind
theorem OD {x y : Rat} : cmpQ x y < 0 ↔ x < y := by unfold cmpQ; (repeat' split) <;> grind
theorem Bt (x y : Rat) : minQ x y = min x y := by unfold minQ; split <;> rename_i h <;> rw [OD] at h <;> grind
theorem MP (x y : Rat) : maxQ x y = max x y := by unfold maxQ; split <;> rename_i h <;> rw [Az] at h <;> grind
def clamp (t : Rat) : Rat := maxQ 0 (minQ 1 t)
theorem Vi (a b : V3) : onS a b 0 = a := by simp only [onS, addV, qb, subV]; rw [vx]; grind
theorem Vj (a b : V3) : onS a b 1 = b := by simp only [onS, addV, qb, subV]; rw [vx]; grind
theorem Mh {x n : Rat} (h : n ≠ 0) : (x - n) / n = x / n - 1 := by
 have q := div_eq (x := x - n) h
 have e := div_eq (x := x) h
 have : ((x - n) / n - (x / n - 1)) * n = 0 := by grind
 rcases Rat.mul_eq_zero.1 this with h | h <;> grind
theorem Oq {x n : Rat} (h0 : 0 < n) : clamp (x / n) = if x ≤ 0 then 0 else if n ≤ x then 1 else x / n := by
 unfold clamp
 rw [MP, Bt]
 split
 ·have := zY (show 0 ≤ -x by grind) h0
  have e2 : -x / n = -(x / n) := by rw [Rat.div_def, Rat.div_def, Rat.neg_mul]
  grind
 ·split
  ·have h2 := zY (show 0 ≤ x - n by grind) h0
   rw [Mh (by grind)] at h2
   grind
  ·have h1 := zY (show 0 ≤ x by grind) h0
   have h2 := Cv (show x ≤ n by grind) h0
   grind
theorem No (a b p : V3) (h : dotQ (subV b a) (subV b a) ≠ 0) : segQ a b p = d2 p (onS a b (clamp (dotQ (subV p a) (subV b a) / dotQ (subV b a) (subV b a)))) := by
 have hn := wF (subV b a)
 rw [Oq (by grind)]
 unfold segQ
 split
 ·rw [Vi]
 ·split
  ·rw [Vj]
  ·rfl
theorem Nn (a b p : V3) (h : dotQ (subV b a) (subV b a) = 0) : segQ a b p = d2 p a := by
 have e := wG h
 have : dotQ (subV p a) (subV b a) = 0 := by rw [e]; simp only [dotQ]; grind
 unfold segQ
 rw [this, if_pos Rat.le_refl]
section
abbrev T3 : Type := V3 × V3 × V3
def zx (t : T3) (p : V3) : Rat := minQ (minQ (segQ t.1 t.2.1 p) (segQ t.2.1 t.2.2 p)) (segQ t.2.2 t.1 p)
def qL (t : T3) : V3 := qh (subV t.2.1 t.1) (subV t.2.2 t.1)
def jY (N a b p : V3) : Prop := dotQ (qh (subV b a) N) a < dotQ (qh (subV b a) N) p
instance (N a b p : V3) : Decidable (jY N a b p) := by unfold jY; infer_instance
def qx (t : T3) (p : V3) : Rat :=
 if qL t = (0, 0, 0) then zx t p else if jY (qL t) t.1 t.2.1 p ∨ jY (qL t) t.2.1 t.2.2 p ∨ jY (qL t) t.2.2 t.1 p then zx t p
 else (dotQ (qL t) p - dotQ (qL t) t.1) * (dotQ (qL t) p - dotQ (qL t) t.1) / dotQ (qL t) (qL t)
theorem KO {a b : Rat} (h : 0 ≤ a) (k : 0 ≤ b) : 0 ≤ minQ a b := by rw [Bt]; grind
theorem GP (t : T3) (p : V3) : 0 ≤ zx t p := KO (KO (Hl _ _ _) (Hl _ _ _)) (Hl _ _ _)
theorem AD (t : T3) (p : V3) : 0 ≤ qx t p := by
 unfold qx
 split
 ·exact GP _ _
 ·rename_i h
  split
  ·exact GP _ _
  ·refine zY (jJ _) ?_
   have h1 := wF (qL t)
   have h2 : dotQ (qL t) (qL t) ≠ 0 := fun e => h (wG e)
   grind
def phi (E F G a b c u v : Rat) : Rat := u * u * E + 2 * u * v * F + v * v * G - 2 * u * a - 2 * v * b + c
section
variable (e1 e2 w : V3)
theorem lagr : dotQ (qh e1 e2) (qh e1 e2) = dotQ e1 e1 * dotQ e2 e2 - dotQ e1 e2 * dotQ e1 e2 := by
 obtain ⟨a1, a2, a3⟩ := e1; obtain ⟨b1, b2, b3⟩ := e2
 simp only [dotQ, qh]; grind
theorem gramd : dotQ (qh e1 e2) w * dotQ (qh e1 e2) w = dotQ e1 e1 * dotQ e2 e2 * dotQ w w + 2 * dotQ e1 e2 * dotQ w e1 * dotQ w e2 - dotQ e1 e1 * dotQ w e2 * dotQ w e2 - dotQ e2 e2 * dotQ w e1 * dotQ w e1 - dotQ e1 e2 * dotQ e1 e2 * dotQ w w := by
 obtain ⟨a1, a2, a3⟩ := e1; obtain ⟨b1, b2, b3⟩ := e2; obtain ⟨w1, w2, w3⟩ := w
 simp only [dotQ, qh]; grind
theorem tri1 : dotQ (qh e1 (qh e1 e2)) w = dotQ e1 e2 * dotQ w e1 - dotQ e1 e1 * dotQ w e2 := by
 obtain ⟨a1, a2, a3⟩ := e1; obtain ⟨b1, b2, b3⟩ := e2; obtain ⟨w1, w2, w3⟩ := w
 simp only [dotQ, qh]; grind
theorem tri2 : dotQ (qh e2 (qh e1 e2)) w = dotQ e2 e2 * dotQ w e1 - dotQ e1 e2 * dotQ w e2 := by
 obtain ⟨a1, a2, a3⟩ := e1; obtain ⟨b1, b2, b3⟩ := e2; obtain ⟨w1, w2, w3⟩ := w
 simp only [dotQ, qh]; grind
end
theorem AE (n p a : V3) : dotQ n (subV p a) = dotQ n p - dotQ n a := by
 obtain ⟨a1, a2, a3⟩ := a; obtain ⟨b1, b2, b3⟩ := n; obtain ⟨w1, w2, w3⟩ := p
 simp only [dotQ, subV]; grind
theorem S8 (a b c p : V3) : jY (qh (subV b a) (subV c a)) a b p ↔ 0 < dotQ (qh (subV b a) (qh (subV b a) (subV c a))) (subV p a) := by
 unfold jY; rw [AE]; grind
theorem Sa (a b c p : V3) : jY (qh (subV b a) (subV c a)) c a p ↔ dotQ (qh (subV c a) (qh (subV b a) (subV c a))) (subV p a) < 0 := by
 have h1 : dotQ (qh (subV a c) (qh (subV b a) (subV c a))) p = -dotQ (qh (subV c a) (qh (subV b a) (subV c a))) p := by
  generalize qh (subV b a) (subV c a) = N
  obtain ⟨a1, a2, a3⟩ := a; obtain ⟨b1, b2, b3⟩ := c; obtain ⟨w1, w2, w3⟩ := p; obtain ⟨n1, n2, n3⟩ := N
  simp only [dotQ, subV, qh]; grind
 have h2 : dotQ (qh (subV a c) (qh (subV b a) (subV c a))) c = -dotQ (qh (subV c a) (qh (subV b a) (subV c a))) a := by
  generalize qh (subV b a) (subV c a) = N
  obtain ⟨a1, a2, a3⟩ := a; obtain ⟨b1, b2, b3⟩ := c; obtain ⟨n1, n2, n3⟩ := N
  simp only [dotQ, subV, qh]; grind
 unfold jY; rw [AE, h1, h2]; grind
theorem S9 (a b c p : V3) : jY (qh (subV b a) (subV c a)) b c p ↔
    dotQ (qh (subV b a) (subV c a)) (qh (subV b a) (subV c a)) < dotQ (qh (subV c a) (qh (subV b a) (subV c a))) (subV p a) - dotQ (qh (subV b a) (qh (subV b a) (subV c a))) (subV p a) := by
  have h1 : dotQ (qh (subV c b) (qh (subV b a) (subV c a))) p = dotQ (qh (subV c a) (qh (subV b a) (subV c a))) p - dotQ (qh (subV b a) (qh (subV b a) (subV c a))) p := by
    generalize qh (subV b a) (subV c a) = N
    obtain ⟨a1, a2, a3⟩ := a; obtain ⟨b1, b2, b3⟩ := b; obtain ⟨c1, c2, c3⟩ := c; obtain ⟨w1, w2, w3⟩ := p; obtain ⟨n1, n2, n3⟩ := N
    simp only [dotQ, subV, qh]; grind
  have h2 : dotQ (qh (subV c b) (qh (subV b a) (subV c a))) b = dotQ (qh (subV b a) (subV c a)) (qh (subV b a) (subV c a)) + dotQ (qh (subV c a) (qh (subV b a) (subV c a))) a - dotQ (qh (subV b a) (qh (subV b a) (subV c a))) a := by
    obtain ⟨a1, a2, a3⟩ := a; obtain ⟨b1, b2, b3⟩ := b; obtain ⟨c1, c2, c3⟩ := c
    simp only [dotQ, subV, qh]; grind
  unfold jY; rw [AE, AE, h1, h2]; grind
theorem Oc (a b c p : V3) (u v : Rat) : d2 p (addV a (addV (qb u (subV b a)) (qb v (subV c a)))) =
    phi (dotQ (subV b a) (subV b a)) (dotQ (subV b a) (subV c a)) (dotQ (subV c a) (subV c a)) (dotQ (subV p a) (subV b a)) (dotQ (subV p a) (subV c a)) (dotQ (subV p a) (subV p a)) u v := by
  obtain ⟨a1, a2, a3⟩ := a; obtain ⟨b1, b2, b3⟩ := b; obtain ⟨c1, c2, c3⟩ := c; obtain ⟨w1, w2, w3⟩ := p
  simp only [d2, dotQ, subV, addV, qb, phi]; grind
theorem UV (a b c : V3) (s : Rat) : onS a b s = addV a (addV (qb s (subV b a)) (qb 0 (subV c a))) := by
 simp only [onS, addV, qb, subV]; rw [vx]; grind
theorem UW (a b c : V3) (s : Rat) : onS b c s = addV a (addV (qb (1 - s) (subV b a)) (qb s (subV c a))) := by
 simp only [onS, addV, qb, subV]; rw [vx]; grind
theorem UX (a b c : V3) (s : Rat) : onS c a s = addV a (addV (qb 0 (subV b a)) (qb (1 - s) (subV c a))) := by
 simp only [onS, addV, qb, subV]; rw [vx]; grind
section
variable {E F G a b c K H : Rat}
theorem IE (hE : 0 < E) (hK : 0 ≤ E * G - F * F) (x y : Rat) : 0 ≤ x * x * E + 2 * x * y * F + y * y * G := by
 rcases Rat.le_total (a := 0) (b := x * x * E + 2 * x * y * F + y * y * G) with h | h
 ·exact h
 ·have h1 := jJ (x * E + y * F)
  have h2 := Rat.mul_nonneg (jJ y) hK
  have h3 := Rat.mul_nonneg (Rat.le_of_lt hE) (show 0 ≤ -(x * x * E + 2 * x * y * F + y * y * G) by grind)
  have h4 : E * (x * x * E + 2 * x * y * F + y * y * G) = 0 := by grind
  rcases Rat.mul_eq_zero.1 h4 with h5 | h5
  ·grind
  ·rw [h5]; exact Rat.le_refl
theorem Hc (u v : Rat) (hK : K = E * G - F * F) (hH : H = E * G * c + 2 * F * a * b - E * b * b - G * a * a - F * F * c) :
    K * (K * phi E F G a b c u v - H) = (K * u - (G * a - F * b)) * (K * u - (G * a - F * b)) * E + 2 * (K * u - (G * a - F * b)) * (K * v - (E * b - F * a)) * F + (K * v - (E * b - F * a)) * (K * v - (E * b - F * a)) * G := by
  subst hK hH; unfold phi; grind
theorem wj {x K : Rat} (hK : 0 < K) (h : 0 ≤ K * x) : 0 ≤ x := by
 rcases Rat.le_total (a := 0) (b := x) with h1 | h1
 ·exact h1
 ·have h2 := Rat.mul_nonneg (Rat.le_of_lt hK) (show 0 ≤ -x by grind)
  have h3 : K * x = 0 := by grind
  rcases Rat.mul_eq_zero.1 h3 with h4 | h4 <;> grind
theorem N7 (u v : Rat) (hE : 0 < E) (h0 : 0 < K) (hK : K = E * G - F * F) (hH : H = E * G * c + 2 * F * a * b - E * b * b - G * a * a - F * F * c) : H / K ≤ phi E F G a b c u v := by
 have h := IE hE (show 0 ≤ E * G - F * F by rw [← hK]; exact Rat.le_of_lt h0) (K * u - (G * a - F * b)) (K * v - (E * b - F * a))
 rw [← Hc u v hK hH] at h
 have h := wj h0 h
 have e := div_eq (x := H) (show K ≠ 0 by grind)
 have := wj (x := phi E F G a b c u v - H / K) h0 (by grind)
 grind
theorem N6 (u v x y s : Rat) (hs : 0 ≤ s) (hs1 : s ≤ 1) (hE : 0 < E) (h0 : 0 < K) (hK : K = E * G - F * F) (hx : K * x = (1 - s) * (K * u) + s * (G * a - F * b)) (hy : K * y = (1 - s) * (K * v) + s * (E * b - F * a)) :
    phi E F G a b c x y ≤ phi E F G a b c u v := by
  have h1 := Hc (c := c) (a := a) (b := b) u v hK rfl
  have h2 := Hc (c := c) (a := a) (b := b) x y hK rfl
  generalize E * G * c + 2 * F * a * b - E * b * b - G * a * a - F * F * c = H at *
  have e1 : K * x - (G * a - F * b) = (1 - s) * (K * u - (G * a - F * b)) := by grind
  have e2 : K * y - (E * b - F * a) = (1 - s) * (K * v - (E * b - F * a)) := by grind
  rw [e1, e2] at h2
  have hq := IE hE (show 0 ≤ E * G - F * F by rw [← hK]; exact Rat.le_of_lt h0) (K * u - (G * a - F * b)) (K * v - (E * b - F * a))
  generalize K * u - (G * a - F * b) = X at *; generalize K * v - (E * b - F * a) = Y at *
  have h3 := Rat.mul_nonneg (show 0 ≤ 1 - (1 - s) * (1 - s) by have := Rat.mul_nonneg hs (show 0 ≤ 2 - s by grind); grind) hq
  have h4 : 0 ≤ K * (K * (phi E F G a b c u v - phi E F G a b c x y)) := by grind
  have := wj h0 (wj h0 h4)
  grind
end
theorem ratio {β γ : Rat} (hb : 0 ≤ β) (hg : γ < 0) : 0 ≤ β / (β - γ) ∧ β / (β - γ) < 1 ∧ β + β / (β - γ) * (γ - β) = 0 := by
 have h0 : 0 < β - γ := by grind
 have h1 := zY hb h0
 have h2 := Cv (show β ≤ β - γ by grind) h0
 have e := div_eq (x := β) (show β - γ ≠ 0 by grind)
 refine ⟨h1, ?_, by grind⟩
 by_cases h : β / (β - γ) = 1
 ·rw [h] at e; grind
 ·grind
theorem Nf {β γ s : Rat} (hb : 0 ≤ β) (hg : γ < 0) (hs : s ≤ β / (β - γ)) : 0 ≤ β + s * (γ - β) := by
 have h := (ratio hb hg).2.2
 have := Rat.mul_nonneg (show 0 ≤ β / (β - γ) - s by grind) (show 0 ≤ β - γ by grind)
 grind
theorem Lj {β γ s : Rat} (hb : 0 ≤ β) (hg : ¬ γ < 0) (hs : 0 ≤ s) (hs1 : s ≤ 1) : 0 ≤ β + s * (γ - β) := by
 have h1 := Rat.mul_nonneg hs (show 0 ≤ γ by grind)
 have h2 := Rat.mul_nonneg (show 0 ≤ 1 - s by grind) hb
 grind
def rat1 (β γ : Rat) : Rat := if γ < 0 then β / (β - γ) else 1
theorem Hf {β γ : Rat} (hb : 0 ≤ β) : 0 ≤ rat1 β γ ∧ rat1 β γ ≤ 1 := by
 unfold rat1; split
 ·rename_i h; have := ratio hb h; grind
 ·grind
theorem F2 {β γ s : Rat} (hb : 0 ≤ β) (hs : 0 ≤ s) (h1 : s ≤ 1) (h : s ≤ rat1 β γ) : 0 ≤ β + s * (γ - β) := by
 unfold rat1 at h; split at h
 ·rename_i hg; exact Nf hb hg h
 ·rename_i hg; exact Lj hb hg hs h1
theorem F1 {β γ : Rat} (hb : 0 ≤ β) (h : rat1 β γ < 1) : β + rat1 β γ * (γ - β) = 0 := by
 unfold rat1 at h ⊢; split at h
 ·rename_i hg; rw [if_pos hg]; exact (ratio hb hg).2.2
 ·grind
theorem F3 {β γ : Rat} (hb : 0 ≤ β) (hg : γ < 0) : rat1 β γ < 1 := by unfold rat1; rw [if_pos hg]; exact (ratio hb hg).2.1
theorem QW {β0 β1 β2 γ0 γ1 γ2 : Rat} (h0 : 0 ≤ β0) (h1 : 0 ≤ β1) (h2 : 0 ≤ β2) (hg : γ0 < 0 ∨ γ1 < 0 ∨ γ2 < 0) : ∃ s, 0 ≤ s ∧ s ≤ 1 ∧ 0 ≤ β0 + s * (γ0 - β0) ∧ 0 ≤ β1 + s * (γ1 - β1) ∧ 0 ≤ β2 + s * (γ2 - β2) ∧
    (β0 + s * (γ0 - β0) = 0 ∨ β1 + s * (γ1 - β1) = 0 ∨ β2 + s * (γ2 - β2) = 0) := by
  have b0 := Hf (γ := γ0) h0; have b1 := Hf (γ := γ1) h1; have b2 := Hf (γ := γ2) h2
  have hlt : rat1 β0 γ0 < 1 ∨ rat1 β1 γ1 < 1 ∨ rat1 β2 γ2 < 1 := by
    rcases hg with h | h | h
    · exact .inl (F3 h0 h)
    · exact .inr (.inl (F3 h1 h))
    · exact .inr (.inr (F3 h2 h))
  have key : ∀ s, 0 ≤ s → s ≤ 1 → s ≤ rat1 β0 γ0 → s ≤ rat1 β1 γ1 → s ≤ rat1 β2 γ2 → 0 ≤ β0 + s * (γ0 - β0) ∧ 0 ≤ β1 + s * (γ1 - β1) ∧ 0 ≤ β2 + s * (γ2 - β2) :=
    fun s a b c d e => ⟨F2 h0 a b c, F2 h1 a b d, F2 h2 a b e⟩
  by_cases q1 : rat1 β0 γ0 ≤ rat1 β1 γ1 ∧ rat1 β0 γ0 ≤ rat1 β2 γ2
  · have k := key _ b0.1 b0.2 Rat.le_refl q1.1 q1.2
    exact ⟨rat1 β0 γ0, b0.1, b0.2, k.1, k.2.1, k.2.2, .inl (F1 h0 (by grind))⟩
  · by_cases q2 : rat1 β1 γ1 ≤ rat1 β2 γ2
    · have k := key _ b1.1 b1.2 (by grind) Rat.le_refl q2
      exact ⟨rat1 β1 γ1, b1.1, b1.2, k.1, k.2.1, k.2.2, .inr (.inl (F1 h1 (by grind)))⟩
    · have k := key _ b2.1 b2.2 (by grind) (by grind) Rat.le_refl
      exact ⟨rat1 β2 γ2, b2.1, b2.2, k.1, k.2.1, k.2.2, .inr (.inr (F1 h2 (by grind)))⟩
theorem PS {a b c x : Rat} (h : a ≤ x ∨ b ≤ x ∨ c ≤ x) : minQ (minQ a b) c ≤ x := by rw [Bt, Bt]; grind
theorem E1 (t : T3) (p : V3) {x y z : Rat} (h0 : 0 ≤ x) (h1 : 0 ≤ y) (h2 : 0 ≤ z) (hs : x + y + z = 1) (h : x = 0 ∨ y = 0 ∨ z = 0) :
    zx t p ≤ d2 p (addV t.1 (addV (qb y (subV t.2.1 t.1)) (qb z (subV t.2.2 t.1)))) := by
  refine PS ?_
  rcases h with h | h | h
  · have e : y = 1 - z := by grind
    rw [e, ← UW]
    exact .inr (.inl (Hk _ _ _ h2 (by grind)))
  · have e : z = 1 - x := by grind
    rw [e, h, ← UX]
    exact .inr (.inr (Hk _ _ _ h0 (by grind)))
  · rw [h, ← UV]
    exact .inl (Hk _ _ _ h1 (by grind))
theorem Jk (t : T3) (p : V3) (hN : qL t = (0, 0, 0)) {u v : Rat} (hu : 0 ≤ u) (hv : 0 ≤ v) (h1 : u + v ≤ 1) :
    zx t p ≤ d2 p (addV t.1 (addV (qb u (subV t.2.1 t.1)) (qb v (subV t.2.2 t.1)))) := by
  have hE := wF (subV t.2.1 t.1)
  have hl := lagr (subV t.2.1 t.1) (subV t.2.2 t.1)
  have key : ∀ x y z : Rat, 0 ≤ x → 0 ≤ y → 0 ≤ z → x + y + z = 1 → (x = 0 ∨ y = 0 ∨ z = 0) → addV t.1 (addV (qb y (subV t.2.1 t.1)) (qb z (subV t.2.2 t.1))) = addV t.1 (addV (qb u (subV t.2.1 t.1)) (qb v (subV t.2.2 t.1))) →
      zx t p ≤ d2 p (addV t.1 (addV (qb u (subV t.2.1 t.1)) (qb v (subV t.2.2 t.1)))) := fun x y z a b c d e f => f ▸ E1 t p a b c d e
  by_cases hz : dotQ (subV t.2.1 t.1) (subV t.2.1 t.1) = 0
  · have e := wG hz
    rw [e] at key ⊢
    exact key (1 - v) 0 v (by grind) Rat.le_refl hv (by grind) (.inr (.inl rfl)) (by simp only [addV, qb]; rw [vx]; grind)
  · have hN' : qh (subV t.2.1 t.1) (subV t.2.2 t.1) = (0, 0, 0) := hN
    have hpar : subV t.2.2 t.1 = qb (dotQ (subV t.2.1 t.1) (subV t.2.2 t.1) / dotQ (subV t.2.1 t.1) (subV t.2.1 t.1)) (subV t.2.1 t.1) := by
      generalize subV t.2.1 t.1 = e1 at *; generalize subV t.2.2 t.1 = e2 at *
      have e := div_eq (x := dotQ e1 e2) hz
      generalize dotQ e1 e2 / dotQ e1 e1 = c at *
      obtain ⟨a1, a2, a3⟩ := e1; obtain ⟨b1, b2, b3⟩ := e2
      simp only [qh, Prod.mk.injEq] at hN'
      simp only [dotQ] at e hz
      have h1 : (a1 * a1 + a2 * a2 + a3 * a3) * (b1 - c * a1) = 0 := by grind
      have h2 : (a1 * a1 + a2 * a2 + a3 * a3) * (b2 - c * a2) = 0 := by grind
      have h3 : (a1 * a1 + a2 * a2 + a3 * a3) * (b3 - c * a3) = 0 := by grind
      simp only [qb, Prod.mk.injEq]
      rcases Rat.mul_eq_zero.1 h1 with h | h <;> rcases Rat.mul_eq_zero.1 h2 with k | k <;> rcases Rat.mul_eq_zero.1 h3 with l | l <;> first | exact absurd h hz | exact absurd k hz | exact absurd l hz | exact ⟨by grind, by grind, by grind⟩
    generalize dotQ (subV t.2.1 t.1) (subV t.2.2 t.1) / dotQ (subV t.2.1 t.1) (subV t.2.1 t.1) = c at hpar
    rw [hpar] at key ⊢
    generalize subV t.2.1 t.1 = e1 at *
    have pt : ∀ y z : Rat, y + z * c = u + v * c → addV t.1 (addV (qb y e1) (qb z (qb c e1))) = addV t.1 (addV (qb u e1) (qb v (qb c e1))) := by
      intro y z h
      simp only [addV, qb]; rw [vx]; grind
    by_cases q1 : u + v * c < 0
    · have hc : c < 0 := by
        rcases Rat.le_total (a := 0) (b := c) with h | h
        · have := Rat.mul_nonneg hv h; grind
        · by_cases e : c = 0
          · subst e; grind
          · grind
      have n1 := zY (show 0 ≤ -(u + v * c) by grind) (show 0 < -c by grind)
      have e := div_eq (x := -(u + v * c)) (show -c ≠ 0 by grind)
      have hz1 : -(u + v * c) / -c ≤ 1 := by
        refine Cv ?_ (by grind)
        have := Rat.mul_nonneg (show 0 ≤ 1 - v by grind) (show 0 ≤ -c by grind); grind
      exact key (1 - -(u + v * c) / -c) 0 _ (by grind) Rat.le_refl n1 (by grind) (.inr (.inl rfl)) (pt _ _ (by grind))
    · by_cases q2 : u + v * c ≤ 1
      · exact key (1 - (u + v * c)) (u + v * c) 0 (by grind) (by grind) Rat.le_refl (by grind) (.inr (.inr rfl)) (pt _ _ (by grind))
      · have hc : 1 < c := by
          rcases Rat.le_total (a := c) (b := 1) with h | h
          · have := Rat.mul_nonneg hv (show 0 ≤ 1 - c by grind); grind
          · by_cases e : c = 1
            · subst e; grind
            · grind
        have n1 := zY (show 0 ≤ u + v * c - 1 by grind) (show 0 < c - 1 by grind)
        have e := div_eq (x := u + v * c - 1) (show c - 1 ≠ 0 by grind)
        have hz1 : (u + v * c - 1) / (c - 1) ≤ 1 := by
          refine Cv ?_ (by grind)
          have := Rat.mul_nonneg (show 0 ≤ 1 - v by grind) (show 0 ≤ c - 1 by grind); grind
        exact key 0 (1 - (u + v * c - 1) / (c - 1)) _ Rat.le_refl (by grind) n1 (by grind) (.inl rfl) (pt _ _ (by grind))
theorem Ik (t : T3) (p : V3) {u v : Rat} (hu : 0 ≤ u) (hv : 0 ≤ v) (h1 : u + v ≤ 1) :
    qx t p ≤ d2 p (addV t.1 (addV (qb u (subV t.2.1 t.1)) (qb v (subV t.2.2 t.1)))) := by
  unfold qx
  split
  · rename_i h; exact Jk t p h hu hv h1
  · rename_i h
    have hK := lagr (subV t.2.1 t.1) (subV t.2.2 t.1)
    have hK0 : 0 < dotQ (qL t) (qL t) := by
      have a := wF (qL t); have b : dotQ (qL t) (qL t) ≠ 0 := fun e => h (wG e); grind
    have hE : 0 < dotQ (subV t.2.1 t.1) (subV t.2.1 t.1) := by
      have a := wF (subV t.2.1 t.1)
      have b : dotQ (subV t.2.1 t.1) (subV t.2.1 t.1) ≠ 0 := fun e => by
        have e := wG e
        apply h; unfold qL; rw [e]; simp only [qh]; rw [vx]; grind
      grind
    split
    · rename_i hf
      unfold qL at hf hK0
      rw [S8, S9, Sa, tri1, tri2, hK] at hf
      rw [hK] at hK0
      have mv := fun x y s hs hs1 => N6 (c := dotQ (subV p t.1) (subV p t.1)) u v x y s hs hs1 hE hK0 rfl (a := dotQ (subV p t.1) (subV t.2.1 t.1)) (b := dotQ (subV p t.1) (subV t.2.2 t.1))
      have le := fun x y z h0 h1 h2 => E1 t p (x := x) (y := y) (z := z) h0 h1 h2
      simp only [Oc] at le ⊢
      generalize dotQ (subV p t.1) (subV t.2.1 t.1) = a at *; generalize dotQ (subV p t.1) (subV t.2.2 t.1) = b at *; generalize dotQ (subV p t.1) (subV p t.1) = c at *
      generalize dotQ (subV t.2.1 t.1) (subV t.2.1 t.1) = E at *; generalize dotQ (subV t.2.1 t.1) (subV t.2.2 t.1) = F at *; generalize dotQ (subV t.2.2 t.1) (subV t.2.2 t.1) = G at *
      have eA := div_eq (x := G * a - F * b) (show E * G - F * F ≠ 0 by grind)
      have eB := div_eq (x := E * b - F * a) (show E * G - F * F ≠ 0 by grind)
      generalize (G * a - F * b) / (E * G - F * F) = A at *; generalize (E * b - F * a) / (E * G - F * F) = B at *
      generalize hKK : E * G - F * F = K at *
      have neg : ∀ x : Rat, K * x < 0 → x < 0 := fun x hx => by
        rcases Rat.le_total (a := 0) (b := x) with h | h
        · have := Rat.mul_nonneg (Rat.le_of_lt hK0) h; grind
        · by_cases e : x = 0
          · subst e; grind
          · grind
      obtain ⟨s, s0, s1, p0, p1, p2, hz⟩ := QW (γ0 := 1 - A - B) (γ1 := A) (γ2 := B) (show 0 ≤ 1 - u - v by grind) hu hv (by
        rcases hf with h | h | h
        · exact .inr (.inr (neg _ (by grind)))
        · exact .inl (neg _ (by grind))
        · exact .inr (.inl (neg _ (by grind))))
      exact Rat.le_trans (le _ _ _ p0 p1 p2 (by grind) hz) (mv _ _ s s0 s1 (by grind) (by grind))
    · have hd : dotQ (qL t) p - dotQ (qL t) t.1 = dotQ (qh (subV t.2.1 t.1) (subV t.2.2 t.1)) (subV p t.1) := by rw [AE]; rfl
      rw [Oc, hd, gramd]
      unfold qL at hK0 ⊢
      rw [hK] at hK0 ⊢
      exact N7 u v hE hK0 rfl rfl
theorem OL (t : T3) {u v : Rat} (hu : 0 ≤ u) (hv : 0 ≤ v) (h1 : u + v ≤ 1) : qx t (addV t.1 (addV (qb u (subV t.2.1 t.1)) (qb v (subV t.2.2 t.1)))) = 0 := by
 have h := Ik t (addV t.1 (addV (qb u (subV t.2.1 t.1)) (qb v (subV t.2.2 t.1)))) hu hv h1
 have h2 := AD t (addV t.1 (addV (qb u (subV t.2.1 t.1)) (qb v (subV t.2.2 t.1))))
 have h3 : ∀ x : V3, d2 x x = 0 := fun x => by simp only [d2, dotQ, subV]; grind
 rw [h3] at h
 grind
end
theorem Gh {x : Rat} : sgnQ x = if x < 0 then -1 else if x = 0 then 0 else 1 := by
 have e0 : x < 0 ↔ x.num < 0 := by
  have := Rat.num_nonneg (q := x)
  constructor
  ·intro h; have : ¬ 0 ≤ x.num := fun e => by have := this.1 e; grind
   omega
  ·intro h; have : ¬ 0 ≤ x := fun e => by have := this.2 e; omega
   grind
 have e1 : x = 0 ↔ x.num = 0 := Rat.num_eq_zero.symm
 rcases vV x with ⟨h, k⟩ | ⟨h, k⟩ | ⟨h, k⟩ <;> rw [k]
 ·rw [if_pos (e0.2 h)]
 ·rw [if_neg (fun q => by have := e0.1 q; omega), if_pos (e1.2 h)]
 ·rw [if_neg (fun q => by have := e0.1 q; omega), if_neg (fun q => by have := e1.1 q; omega)]
theorem QM (x y : Rat) : sgnQ (x - y) = cmpQ x y := by
 rw [Gh]; unfold cmpQ
 by_cases h : x < y
 ·rw [if_pos h, if_pos (by grind)]
 ·rw [if_neg h, if_neg (by grind)]
  by_cases h2 : x = y
  ·rw [if_pos h2, if_pos (by grind)]
  ·rw [if_neg h2, if_neg (by grind)]
theorem Hq {x : Rat} : sgnQ x ≤ 0 ↔ x ≤ 0 := by rw [Gh]; (repeat' split) <;> grind
theorem If {x y : Rat} : 0 ≤ cmpQ x y ↔ y ≤ x := by unfold cmpQ; (repeat' split) <;> grind
theorem OC {x y : Rat} : cmpQ x y ≤ 0 ↔ x ≤ y := by unfold cmpQ; (repeat' split) <;> grind
theorem Ld {y : Rat} : quoC y = 0 ↔ y ≠ 0 := by
 have e1 : y = 0 ↔ y.num = 0 := Rat.num_eq_zero.symm
 unfold quoC; split
 ·rename_i h; exact ⟨fun e => absurd e (by decide), fun e => absurd (e1.2 (by omega)) e⟩
 ·rename_i h; exact ⟨fun _ e => h (by have := e1.1 e; omega), fun _ => rfl⟩
theorem vd {b : Bd} {x : V3} {m : Nat} (h : Bnd tV3 b x) (hm : b.mx ≤ m) : Bnd tV3 (bV3 m) x := ⟨j4 h.v3.1 hm, j4 h.v3.2.1 hm, j4 h.v3.2.2 hm⟩
theorem sub_m {p q : V3} {m k : Nat} (hp : Bnd tV3 (bV3 m) p) (hq : Bnd tV3 (bV3 k) q) : Bnd tV3 (bV3 (m + k + 1)) (subV p q) := by
 have := En hp hq; simpa [Bd.mx] using this
theorem add_m {p q : V3} {m k : Nat} (hp : Bnd tV3 (bV3 m) p) (hq : Bnd tV3 (bV3 k) q) : Bnd tV3 (bV3 (m + k + 1)) (addV p q) := by
 have := DD hp hq; simpa [Bd.mx] using this
theorem F8 {r : Rat} {q : V3} {m k : Nat} (hp : Bnd .rat (.n m) r) (hq : Bnd tV3 (bV3 k) q) : Bnd tV3 (bV3 (m + k)) (qb r q) := by
 have := Do hp hq; simpa [Bd.mx] using this
theorem wg {p q : V3} {m k : Nat} (hp : Bnd tV3 (bV3 m) p) (hq : Bnd tV3 (bV3 k) q) : Bnd .rat (.n (3 * (m + k) + 2)) (dotQ p q) := by
 have := GE hp hq; simpa [Bd.mx] using this
theorem Ih {p q : V3} {m k : Nat} (hp : Bnd tV3 (bV3 m) p) (hq : Bnd tV3 (bV3 k) q) : Bnd tV3 (bV3 (2 * (m + k) + 1)) (qh p q) := by
 have := De hp hq; simpa [Bd.mx] using this
theorem Jz {x y : Rat} {m k : Nat} (hx : Bnd .rat (.n m) x) (hy : Bnd .rat (.n k) y) : Bnd .rat (.n (m + k)) (x / y) := CQ hx hy
theorem vX {m k : Nat} {x : V3} (h : Bnd tV3 (bV3 m) x) (hm : m ≤ k) : Bnd tV3 (bV3 k) x := ⟨j4 h.1 hm, j4 h.2.1 hm, j4 h.2.2 hm⟩
theorem d2_m {p q : V3} {m k : Nat} (hp : Bnd tV3 (bV3 m) p) (hq : Bnd tV3 (bV3 k) q) : Bnd .rat (.n (6 * (m + k) + 8)) (d2 p q) :=
 j4 (wg (sub_m hp hq) (sub_m hp hq)) (by omega)
theorem Gg {a b p : V3} {m : Nat} (ha : Bnd tV3 (bV3 m) a) (hb : Bnd tV3 (bV3 m) b) (hp : Bnd tV3 (bV3 m) p) : Bnd .rat (.n (168 * m + 116)) (segQ a b p) := by
 unfold segQ
 split
 ·exact j4 (d2_m hp ha) (by omega)
 ·split
  ·exact j4 (d2_m hp hb) (by omega)
  ·exact j4 (d2_m hp (add_m ha (F8 (Jz (wg (sub_m hp ha) (sub_m hb ha)) (wg (sub_m hb ha) (sub_m hb ha))) (sub_m hb ha)))) (by omega)
theorem Oe {a b p : V3} {c d e : Bd} (ha : Bnd tV3 c a) (hb : Bnd tV3 d b) (hp : Bnd tV3 e p) : Bnd .rat (.n (168 * max c.mx (max d.mx e.mx) + 116)) (segQ a b p) :=
 Gg (vd ha (by omega)) (vd hb (by omega)) (vd hp (by omega))
abbrev tT3 : Ty := .pr tV3 (.pr tV3 tV3)
abbrev bT3 (m : Nat) : Bd := .p (bV3 m) (.p (bV3 m) (bV3 m))
abbrev tPl : Ty := .pr tV3 .rat
theorem Bnd.t3 {b : Bd} {t : T3} (h : Bnd tT3 b t) : Bnd tV3 (bV3 b.mx) t.1 ∧ Bnd tV3 (bV3 b.mx) t.2.1 ∧ Bnd tV3 (bV3 b.mx) t.2.2 := by
 have h1 := h.pr; have h2 := h1.2.pr
 have := b.l_mx; have := b.r_mx; have := b.r.l_mx; have := b.r.r_mx
 exact ⟨vd h1.1 (by omega), vd h2.1 (by omega), vd h2.2 (by omega)⟩
theorem GZ {t : T3} {m : Nat} (h : Bnd tV3 (bV3 m) t.1 ∧ Bnd tV3 (bV3 m) t.2.1 ∧ Bnd tV3 (bV3 m) t.2.2) : Bnd tV3 (bV3 (8 * m + 5)) (qL t) :=
 vX (Ih (sub_m h.2.1 h.1) (sub_m h.2.2 h.1)) (by omega)
def qf (t : T3) : V3 × Rat := (qL t, dotQ (qL t) t.1)
theorem CP {t : T3} {m : Nat} (h : Bnd tV3 (bV3 m) t.1 ∧ Bnd tV3 (bV3 m) t.2.1 ∧ Bnd tV3 (bV3 m) t.2.2) : Bnd tPl (.p (bV3 (27 * m + 17)) (.n (27 * m + 17))) (qf t) :=
 ⟨vX (GZ h) (by omega), j4 (wg (GZ h) h.1) (by omega)⟩
theorem Iu {t : T3} {p : V3} {m : Nat} (h : Bnd tV3 (bV3 m) t.1 ∧ Bnd tV3 (bV3 m) t.2.1 ∧ Bnd tV3 (bV3 m) t.2.2) (hp : Bnd tV3 (bV3 m) p) : Bnd .rat (.n (168 * m + 116)) (zx t p) :=
 j4 (Bs (Bs (Gg h.1 h.2.1 hp) (Gg h.2.1 h.2.2 hp)) (Gg h.2.2 h.1 hp)) (by simp [Bd.nb])
theorem Kk {t : T3} {p : V3} {b c : Bd} (h : Bnd tT3 b t) (hp : Bnd tV3 c p) : Bnd .rat (.n (168 * max b.mx c.mx + 116)) (qx t p) := by
 have h1 := h.t3
 have h2 : Bnd tV3 (bV3 (max b.mx c.mx)) t.1 ∧ Bnd tV3 (bV3 (max b.mx c.mx)) t.2.1 ∧ Bnd tV3 (bV3 (max b.mx c.mx)) t.2.2 := ⟨vX h1.1 (by omega), vX h1.2.1 (by omega), vX h1.2.2 (by omega)⟩
 have hp2 : Bnd tV3 (bV3 (max b.mx c.mx)) p := vd hp (by omega)
 generalize max b.mx c.mx = m at *
 unfold qx
 split
 ·exact Iu h2 hp2
 ·split
  ·exact Iu h2 hp2
  ·have hN := GZ h2
   have hd := wm (wg hN hp2) (wg hN h2.1)
   exact j4 (Jz (vg hd hd) (wg hN hN)) (by omega)
def upP (q : V3 × Rat) (a b : V3) : V3 × Rat := (qh (subV b a) q.1, dotQ (qh (subV b a) q.1) a)
theorem up_m {q : V3 × Rat} {a b : V3} {m k : Nat} (hq : Bnd tV3 (bV3 k) q.1) (ha : Bnd tV3 (bV3 m) a) (hb : Bnd tV3 (bV3 m) b) : Bnd tPl (.p (bV3 (15 * m + 6 * k + 11)) (.n (15 * m + 6 * k + 11))) (upP q a b) := by
 have h := Ih (sub_m hb ha) hq
 exact ⟨vX h (by omega), j4 (wg h ha) (by omega)⟩
theorem up_b {q : V3 × Rat} {a b : V3} {c d e : Bd} (hq : Bnd tPl c q) (ha : Bnd tV3 d a) (hb : Bnd tV3 e b) : Bnd tPl (.p (bV3 (15 * max d.mx e.mx + 6 * c.mx + 11)) (.n (15 * max d.mx e.mx + 6 * c.mx + 11))) (upP q a b) :=
 up_m (vd hq.pr.1 c.l_mx) (vd ha (by omega)) (vd hb (by omega))
theorem Nw {a b c : V3} (h : qh (subV b a) (subV c a) = (0, 0, 0)) : ((0, 0, 0), 0) = qf (a, b, c) := by
 have e : qL (a, b, c) = (0, 0, 0) := h
 unfold qf; rw [e]; simp only [dotQ]; congr 1; grind
def thrC (a b c : V3) : Int := if qL (a, b, c) = (0, 0, 0) then 9 else 0
theorem TT (a b c : V3) : (thrC a b c).natAbs ≤ 9 := by unfold thrC; split <;> decide
theorem Fv {t : T3} {p : V3} (h : qL t = (0, 0, 0)) : zx t p = qx t p := by unfold qx; rw [if_pos h]
theorem z6 {t : T3} {p : V3} (h : ¬ qL t = (0, 0, 0)) (k : 0 < cmpQ (dotQ (upP (qf t) t.1 t.2.1).1 p) (upP (qf t) t.1 t.2.1).2 ∨ 0 < cmpQ (dotQ (upP (qf t) t.2.1 t.2.2).1 p) (upP (qf t) t.2.1 t.2.2).2 ∨ 0 < cmpQ (dotQ (upP (qf t) t.2.2 t.1).1 p) (upP (qf t) t.2.2 t.1).2) : zx t p = qx t p := by
 rw [Az, Az, Az] at k
 have k : jY (qL t) t.1 t.2.1 p ∨ jY (qL t) t.2.1 t.2.2 p ∨ jY (qL t) t.2.2 t.1 p := k
 unfold qx; rw [if_neg h, if_pos k]
theorem Fw {t : T3} {p : V3} (h : ¬ qL t = (0, 0, 0)) (k0 : ¬ 0 < cmpQ (dotQ (upP (qf t) t.1 t.2.1).1 p) (upP (qf t) t.1 t.2.1).2) (k1 : ¬ 0 < cmpQ (dotQ (upP (qf t) t.2.1 t.2.2).1 p) (upP (qf t) t.2.1 t.2.2).2) (k2 : ¬ 0 < cmpQ (dotQ (upP (qf t) t.2.2 t.1).1 p) (upP (qf t) t.2.2 t.1).2) :
    (dotQ (qf t).1 p - (qf t).2) * (dotQ (qf t).1 p - (qf t).2) / dotQ (qf t).1 (qf t).1 = qx t p := by
  rw [Az] at k0 k1 k2
  unfold qx; rw [if_neg h, if_neg (by rintro (e | e | e) <;> contradiction)]; rfl
def smlV (x : Rat) : Int := if x.den = 1 ∧ (limbs x.num.natAbs).length ≤ 1 then x.num else 0
def smlB (x : Rat) : Bool := decide (x.den = 1 ∧ x.num.natAbs < 268435456)
theorem Kg (x : Rat) : (denL x.den).length = 0 ↔ x.den = 1 := by
 unfold denL; split
 ·rename_i h; simp [h]
 ·rename_i h
  refine ⟨fun e => ?_, fun e => absurd e h⟩
  have := nl0.1 e; exact absurd this x.den_nz
theorem BD {x : Rat} (h : 0 < (denL x.den).length ∨ 1 < (limbs x.num.natAbs).length) : 0 = smlV x ∧ false = smlB x := by
 have e := Kg x
 have hc : ¬ (x.den = 1 ∧ (limbs x.num.natAbs).length ≤ 1) := by
  rintro ⟨a, b⟩; have := e.2 a; omega
 refine ⟨by unfold smlV; rw [if_neg hc], ?_⟩
 symm; apply decide_eq_false
 rintro ⟨a, b⟩
 refine hc ⟨a, A7 (k := 1) (by omega)⟩
theorem Fa {x : Rat} (h0 : ¬ 0 < (denL x.den).length) (h1 : ¬ 1 < (limbs x.num.natAbs).length) : smlV x = x.num ∧ x.den = 1 := by
 have a := (Kg x).1 (by omega)
 exact ⟨by unfold smlV; rw [if_pos ⟨a, by omega⟩], a⟩
theorem IP {x : Rat} (h0 : ¬ 0 < (denL x.den).length) (h1 : ¬ 1 < (limbs x.num.natAbs).length) (h : (limbs x.num.natAbs).length = 0) : 0 = smlV x ∧ true = smlB x := by
 obtain ⟨a, b⟩ := Fa h0 h1
 have c := nl0.1 h
 refine ⟨by rw [a]; omega, ?_⟩
 symm; apply decide_eq_true; exact ⟨b, by omega⟩
theorem GQ {n : Nat} (h1 : ¬ 1 < (limbs n).length) (h : ¬ (limbs n).length = 0) : (limbs n).getD 0 0 = n := by
 have e := v4 (x := n) (by omega)
 rw [show (limbs n).length = 1 by omega] at e
 simp [valL] at e; simpa using e.symm
theorem IQ {x : Rat} (h0 : ¬ 0 < (denL x.den).length) (h1 : ¬ 1 < (limbs x.num.natAbs).length) (h : ¬ (limbs x.num.natAbs).length = 0) (hn : x.num < 0) :
    -(((limbs x.num.natAbs).getD 0 0 : Nat) : Int) = smlV x ∧ decide ((limbs x.num.natAbs).getD 0 0 < 268435456) = smlB x := by
  obtain ⟨a, b⟩ := Fa h0 h1
  rw [GQ h1 h, a]
  exact ⟨by omega, by unfold smlB; simp [b]⟩
theorem IR {x : Rat} (h0 : ¬ 0 < (denL x.den).length) (h1 : ¬ 1 < (limbs x.num.natAbs).length) (h : ¬ (limbs x.num.natAbs).length = 0) (hn : ¬ x.num < 0) :
    (((limbs x.num.natAbs).getD 0 0 : Nat) : Int) = smlV x ∧ decide ((limbs x.num.natAbs).getD 0 0 < 268435456) = smlB x := by
  obtain ⟨a, b⟩ := Fa h0 h1
  rw [GQ h1 h, a]
  exact ⟨by omega, by unfold smlB; simp [b]⟩
theorem Nu (x : Rat) : (smlV x).natAbs ≤ 4294967295 := by
 unfold smlV; split
 ·rename_i h
  by_cases e : (limbs x.num.natAbs).length = 0
  ·have := nl0.1 e; omega
  ·have e2 := GQ (n := x.num.natAbs) (by omega) e
   have := q8 x.num.natAbs 0
   omega
 ·decide
theorem ju {x : Rat} (h : smlB x = true) : x = ((smlV x : Int) : Rat) ∧ (smlV x).natAbs < 268435456 := by
 obtain ⟨a, b⟩ := of_decide_eq_true h
 have c : smlV x = x.num := by unfold smlV; rw [if_pos ⟨a, A7 (k := 1) (by omega)⟩]
 rw [c]
 exact ⟨Rat.ext rfl a, b⟩
theorem EH {a b : Int} (ha : a.natAbs < 268435456) (hb : b.natAbs < 268435456) : qy .mul .i64 a b (a * b) ∧ (a * b).natAbs ≤ 72057594037927936 := by
 have h : (a * b).natAbs ≤ 268435456 * 268435456 := by rw [Int.natAbs_mul]; exact Nat.mul_le_mul (by omega) (by omega)
 exact ⟨zn rfl (Nat.le_trans h (by decide)), by omega⟩
def sgnZ (z : Int) : Int := if 0 < z then 1 else if z < 0 then -1 else 0
theorem TR (z : Int) : (sgnZ z).natAbs ≤ 1 := by unfold sgnZ; (repeat' split) <;> decide
theorem Nq (s d : Int) : sgnZ (s - d) = cmpQ (s : Rat) (d : Rat) := by
 unfold sgnZ cmpQ
 have h1 : ((s : Rat) < (d : Rat)) ↔ s < d := Rat.intCast_lt_intCast
 have h2 : ((s : Rat) = (d : Rat)) ↔ s = d := by simp
 by_cases a : s < d
 ·rw [if_neg (by omega), if_pos (by omega), if_pos (h1.2 a)]
 ·rw [if_neg (fun e => a (h1.1 e))]
  by_cases b : s = d
  ·rw [if_neg (by omega), if_neg (by omega), if_pos (h2.2 b)]
  ·rw [if_pos (by omega), if_neg (fun e => b (h2.1 e))]
theorem JK {q : V3 × Rat} {p : V3} (a0 : smlB q.1.1 = true) (b0 : smlB p.1 = true) (a1 : smlB q.1.2.1 = true) (b1 : smlB p.2.1 = true) (a2 : smlB q.1.2.2 = true) (b2 : smlB p.2.2 = true) (d : smlB q.2 = true) :
    sgnZ (0 + smlV q.1.1 * smlV p.1 + smlV q.1.2.1 * smlV p.2.1 + smlV q.1.2.2 * smlV p.2.2 - smlV q.2) = cmpQ (dotQ q.1 p) q.2 := by
  rw [Nq, ← (ju d).1]
  congr 1
  unfold dotQ
  rw [Int.zero_add, Rat.intCast_add, Rat.intCast_add, Rat.intCast_mul, Rat.intCast_mul, Rat.intCast_mul, ← (ju a0).1, ← (ju b0).1, ← (ju a1).1, ← (ju b1).1, ← (ju a2).1, ← (ju b2).1]
abbrev Kw : FI := ⟨204, [(.pr .rat (.pr .rat .rat)), (.pr .rat (.pr .rat .rat)), (.fn 71)], [(.p (.n 4294967296) (.p (.n 4294967296) (.n 4294967296))), (.p (.n 4294967296) (.p (.n 4294967296) (.n 4294967296))), .u], fun _ => [], fun b z => (fun (p : Rat × Rat × Rat) (q : Rat × Rat × Rat) (u : Unit) => .c (.agg [.dt tV3 (bV3 ((b0 b).mx + (b1 b).mx + 1)) (subV p q)])) z.1 z.2.1 z.2.2⟩
theorem Kx : Kw.OK Tryz.prog := mkF hmix 24 Tryz.func204 rfl rfl (by decide) [(71, .c Ek)] (fun _ => rfl) (fun _ => rfl) (fun _ _ => rfl) (fun (p : Rat × Rat × Rat) (q : Rat × Rat × Rat) (u : Unit) b hx hp => vH (En (Bnds.h3 hx).1 (Bnds.h3 hx).2.1)) (fun (p : Rat × Rat × Rat) (q : Rat × Rat × Rat) (u : Unit) hx hp => by
 exact ⟨.nil, kcast (by kernel_rfl) ((rfl : (p.1 - q.1, p.2.1 - q.2.1, p.2.2 - q.2.2) = subV p q))⟩)
abbrev Kv : Ctr Tryz.prog := FI.c Kx
abbrev Rj : FI := ⟨128, [(.pr .rat (.pr .rat .rat)), (.pr .rat (.pr .rat .rat))], [(.p (.n 4294967296) (.p (.n 4294967296) (.n 4294967296))), (.p (.n 4294967296) (.p (.n 4294967296) (.n 4294967296)))], fun _ => [], fun b z => (fun (p : Rat × Rat × Rat) (q : Rat × Rat × Rat) => .c (.agg [.dt tV3 (bV3 ((b0 b).mx + (b1 b).mx + 1)) (subV p q)])) z.1 z.2⟩
theorem Rk : Rj.OK Tryz.prog := mkF hmix 8 Tryz.func128 rfl rfl (by decide) [] (fun _ => rfl) (fun _ => rfl) (fun _ _ => rfl) (fun (p : Rat × Rat × Rat) (q : Rat × Rat × Rat) b hx hp => vH (En (Bnds.h2 hx).1 (Bnds.h2 hx).2)) (fun (p : Rat × Rat × Rat) (q : Rat × Rat × Rat) hx hp => by
 exact ⟨.h 1 2 (.c Kv) (.nil), kcast (by kernel_rfl) ((Eq.refl (subV p q)))⟩)
abbrev wy : Ctr Tryz.prog := FI.c Rk
abbrev Rl : FI := ⟨25, [(.pr .rat (.pr .rat .rat)), (.pr .rat (.pr .rat .rat))], [(.p (.n 4294967296) (.p (.n 4294967296) (.n 4294967296))), (.p (.n 4294967296) (.p (.n 4294967296) (.n 4294967296)))], fun _ => [], fun b z => (fun (p : Rat × Rat × Rat) (q : Rat × Rat × Rat) => .c (.agg [.dt tV3 (bV3 ((b0 b).mx + (b1 b).mx + 1)) (subV p q)])) z.1 z.2⟩
theorem Rm : Rl.OK Tryz.prog := mkF hmix 20 Tryz.func25 rfl rfl (by decide) [(28, .c Cs)] (fun _ => rfl) (fun _ => rfl) (fun _ _ => rfl) (fun (p : Rat × Rat × Rat) (q : Rat × Rat × Rat) b hx hp => vH (En (Bnds.h2 hx).1 (Bnds.h2 hx).2)) (fun (p : Rat × Rat × Rat) (q : Rat × Rat × Rat) hx hp => by
 exact ⟨.nil, kcast (by kernel_rfl) ((rfl : (p.1 - q.1, p.2.1 - q.2.1, p.2.2 - q.2.2) = subV p q))⟩)
abbrev AX : Ctr Tryz.prog := FI.c Rm
abbrev NF : FI := ⟨69, [(.pr (.pr .rat (.pr .rat .rat)) .rat), (.pr .rat (.pr .rat .rat))], [(.p (.p (.n 16777216) (.p (.n 16777216) (.n 16777216))) (.n 16777216)), (.p (.n 67108864) (.p (.n 67108864) (.n 67108864)))], fun _ => [], fun b z => (fun (q : (Rat × Rat × Rat) × Rat) (p : Rat × Rat × Rat) => .c (.one (.dt (.int .i64) (.n 1) (cmpQ (dotQ q.1 p) q.2)))) z.1 z.2⟩
theorem NG : NF.OK Tryz.prog := mkF hmix 12 Tryz.func69 rfl rfl (by decide) [(72, .c ww), (133, .c Ca)] (fun _ => rfl) (fun _ => rfl) (fun _ _ => rfl) (fun (q : (Rat × Rat × Rat) × Rat) (p : Rat × Rat × Rat) b hx hp => qc (zF _ _) rfl) (fun (q : (Rat × Rat × Rat) × Rat) (p : Rat × Rat × Rat) hx hp => by
 exact ⟨.nil, kcast (by kernel_rfl) ((Eq.refl (cmpQ (dotQ q.1 p) q.2)))⟩)
abbrev HC : Ctr Tryz.prog := FI.c NG
abbrev NI : FI := ⟨85, [(.pr (.pr .rat (.pr .rat .rat)) .rat), (.pr .rat (.pr .rat .rat))], [(.p (.p (.n 16777216) (.p (.n 16777216) (.n 16777216))) (.n 16777216)), (.p (.n 67108864) (.p (.n 67108864) (.n 67108864)))], fun _ => [], fun b z => (fun (q : (Rat × Rat × Rat) × Rat) (p : Rat × Rat × Rat) => .c (.one (.dt (.int .i64) (.n 1) (cmpQ (dotQ q.1 p) q.2)))) z.1 z.2⟩
theorem NJ : NI.OK Tryz.prog := mkF hmix 13 Tryz.func85 rfl rfl (by decide) [(16, .c D2), (28, .c Cs), (33, .c wx)] (fun _ => rfl) (fun _ => rfl) (fun _ _ => rfl) (fun (q : (Rat × Rat × Rat) × Rat) (p : Rat × Rat × Rat) b hx hp => qc (zF _ _) rfl) (fun (q : (Rat × Rat × Rat) × Rat) (p : Rat × Rat × Rat) hx hp => by
 exact ⟨.nil, kcast (by kernel_rfl) ((QM _ _ : sgnQ ((dotQ q.1 p) - q.2) = cmpQ (dotQ q.1 p) q.2))⟩)
abbrev NH : Ctr Tryz.prog := FI.c NJ
abbrev U1 : FI := ⟨137, [(.pr .rat (.pr .rat .rat)), (.pr .rat (.pr .rat .rat)), (.pr .rat (.pr .rat .rat))], [(.p (.n 1048576) (.p (.n 1048576) (.n 1048576))), (.p (.n 1048576) (.p (.n 1048576) (.n 1048576))), (.p (.n 1048576) (.p (.n 1048576) (.n 1048576)))], fun _ => [], fun b z => (fun (a : Rat × Rat × Rat) (b_ : Rat × Rat × Rat) (c : Rat × Rat × Rat) => .tup [.agg [.dt tPl (.p (bV3 (27 * (max (b0 b).mx (max (b1 b).mx (b2 b).mx)) + 17)) (.n (27 * (max (b0 b).mx (max (b1 b).mx (b2 b).mx)) + 17))) (qf (a, b_, c))], .one (.dt (.int .i64) (.n 9) (thrC a b_ c))]) z.1 z.2.1 z.2.2⟩
theorem U2 : U1.OK Tryz.prog := mkF hmix 24 Tryz.func137 rfl rfl (by decide) [(72, .c ww), (128, .c wy), (135, .c Dv), (136, .c Ah)] (fun _ => rfl) (fun _ => rfl) (fun _ _ => rfl) (fun (a : Rat × Rat × Rat) (b_ : Rat × Rat × Rat) (c : Rat × Rat × Rat) b hx hp => qF (jq (CP ⟨vd (Bnds.h3 hx).1 (by omega), vd (Bnds.h3 hx).2.1 (by omega), vd (Bnds.h3 hx).2.2 (by omega)⟩)) (qF (qc (TT _ _ _) rfl) jv)) (fun (a : Rat × Rat × Rat) (b_ : Rat × Rat × Rat) (c : Rat × Rat × Rat) hx hp => by
 exact ⟨.nil, kcast (by kernel_rfl) (And.intro (fun (h1 : decide ((qh (subV b_ a) (subV c a)) = (0, 0, 0)) = true) => And.intro (Nw (of_decide_eq_true h1) : ((0, 0, 0), 0) = qf (a, b_, c)) ((if_pos (of_decide_eq_true h1)).symm : 9 = thrC a b_ c)) (fun (h2 : ¬ (decide ((qh (subV b_ a) (subV c a)) = (0, 0, 0)) = true)) => And.intro (rfl : (qh (subV b_ a) (subV c a), dotQ (qh (subV b_ a) (subV c a)) a) = qf (a, b_, c)) ((if_neg (fun e => h2 (decide_eq_true e))).symm : 0 = thrC a b_ c)))⟩)
abbrev U0 : Ctr Tryz.prog := FI.c U2
abbrev Re : FI := ⟨65, [(.pr .rat (.pr .rat .rat)), (.pr .rat (.pr .rat .rat)), (.pr .rat (.pr .rat .rat))], [(.p (.n 1048576) (.p (.n 1048576) (.n 1048576))), (.p (.n 1048576) (.p (.n 1048576) (.n 1048576))), (.p (.n 1048576) (.p (.n 1048576) (.n 1048576)))], fun _ => [], fun b z => (fun (a : Rat × Rat × Rat) (b_ : Rat × Rat × Rat) (p : Rat × Rat × Rat) => .c (.agg [.dt .rat (.n (168 * max (b0 b).mx (max (b1 b).mx (b2 b).mx) + 116)) (segQ a b_ p)])) z.1 z.2.1 z.2.2⟩
theorem Rf : Re.OK Tryz.prog := mkF hmix 42 Tryz.func65 rfl rfl (by decide) [(66, .c Ls), (72, .c ww), (73, .c Hi), (128, .c wy), (129, .c IS), (130, .c Co), (131, .c Tw), (132, .c Lr)] (fun _ => rfl) (fun _ => rfl) (fun _ _ => rfl) (fun (a : Rat × Rat × Rat) (b_ : Rat × Rat × Rat) (p : Rat × Rat × Rat) b hx hp => jq (Oe (Bnds.h3 hx).1 (Bnds.h3 hx).2.1 (Bnds.h3 hx).2.2)) (fun (a : Rat × Rat × Rat) (b_ : Rat × Rat × Rat) (p : Rat × Rat × Rat) hx hp => by
 exact ⟨.nil, kcast (by kernel_rfl) (And.intro (fun (h1 : quoC (dotQ (subV b_ a) (subV b_ a)) = 0) => ((No a b_ p (Ld.1 h1)).symm : dotQ (subV p (addV a (qb (maxQ 0 (minQ ((1 : Int) : Rat) ((dotQ (subV p a) (subV b_ a)) / (dotQ (subV b_ a) (subV b_ a))))) (subV b_ a)))) (subV p (addV a (qb (maxQ 0 (minQ ((1 : Int) : Rat) ((dotQ (subV p a) (subV b_ a)) / (dotQ (subV b_ a) (subV b_ a))))) (subV b_ a)))) = segQ a b_ p)) (fun (h2 : ¬ (quoC (dotQ (subV b_ a) (subV b_ a)) = 0)) => ((Nn a b_ p (Decidable.of_not_not (fun e => h2 (Ld.2 e)))).symm : dotQ (subV p a) (subV p a) = segQ a b_ p)))⟩)
abbrev Rc : Ctr Tryz.prog := FI.c Rf
abbrev Rh : FI := ⟨83, [(.pr .rat (.pr .rat .rat)), (.pr .rat (.pr .rat .rat)), (.pr .rat (.pr .rat .rat))], [(.p (.n 1048576) (.p (.n 1048576) (.n 1048576))), (.p (.n 1048576) (.p (.n 1048576) (.n 1048576))), (.p (.n 1048576) (.p (.n 1048576) (.n 1048576)))], fun _ => [], fun b z => (fun (a : Rat × Rat × Rat) (b_ : Rat × Rat × Rat) (p : Rat × Rat × Rat) => .c (.agg [.dt .rat (.n (168 * max (b0 b).mx (max (b1 b).mx (b2 b).mx) + 116)) (segQ a b_ p)])) z.1 z.2.1 z.2.2⟩
theorem Ri : Rh.OK Tryz.prog := mkF hmix 55 Tryz.func83 rfl rfl (by decide) [(16, .c D2), (21, .c IT), (22, .c FZ), (25, .c AX), (32, .c HY), (33, .c wx), (151, .c RE)] (fun _ => rfl) (fun _ => rfl) (fun _ _ => rfl) (fun (a : Rat × Rat × Rat) (b_ : Rat × Rat × Rat) (p : Rat × Rat × Rat) b hx hp => jq (Oe (Bnds.h3 hx).1 (Bnds.h3 hx).2.1 (Bnds.h3 hx).2.2)) (fun (a : Rat × Rat × Rat) (b_ : Rat × Rat × Rat) (p : Rat × Rat × Rat) hx hp => by
 exact ⟨.nil, kcast (by kernel_rfl) (And.intro (fun (h1 : sgnQ (dotQ (subV p a) (subV b_ a)) ≤ 0) => ((if_pos (Hq.1 h1)).symm : dotQ (subV p a) (subV p a) = segQ a b_ p)) (fun (h2 : ¬ (sgnQ (dotQ (subV p a) (subV b_ a)) ≤ 0)) => And.intro (fun (h3 : 0 ≤ cmpQ (dotQ (subV p a) (subV b_ a)) (dotQ (subV b_ a) (subV b_ a))) => (((if_neg (fun e => h2 (Hq.2 e))).trans (if_pos (If.1 h3))).symm : dotQ (subV p b_) (subV p b_) = segQ a b_ p)) (fun (h4 : ¬ (0 ≤ cmpQ (dotQ (subV p a) (subV b_ a)) (dotQ (subV b_ a) (subV b_ a)))) => (((if_neg (fun e => h2 (Hq.2 e))).trans (if_neg (fun e => h4 (If.2 e)))).symm : dotQ (subV p (addV a (qb ((dotQ (subV p a) (subV b_ a)) / (dotQ (subV b_ a) (subV b_ a))) (subV b_ a)))) (subV p (addV a (qb ((dotQ (subV p a) (subV b_ a)) / (dotQ (subV b_ a) (subV b_ a))) (subV b_ a)))) = segQ a b_ p))))⟩)
abbrev Rg : Ctr Tryz.prog := FI.c Ri
abbrev JO : FI := ⟨70, [(.pr (.pr .rat (.pr .rat .rat)) .rat), (.pr .rat (.pr .rat .rat)), (.pr .rat (.pr .rat .rat))], [(.p (.p (.n 16777216) (.p (.n 16777216) (.n 16777216))) (.n 16777216)), (.p (.n 1048576) (.p (.n 1048576) (.n 1048576))), (.p (.n 1048576) (.p (.n 1048576) (.n 1048576)))], fun _ => [], fun b z => (fun (q : (Rat × Rat × Rat) × Rat) (a : Rat × Rat × Rat) (b_ : Rat × Rat × Rat) => .c (.agg [.dt tPl (.p (bV3 (15 * max (b1 b).mx (b2 b).mx + 6 * (b0 b).mx + 11)) (.n (15 * max (b1 b).mx (b2 b).mx + 6 * (b0 b).mx + 11))) (upP q a b_)])) z.1 z.2.1 z.2.2⟩
theorem JP : JO.OK Tryz.prog := mkF hmix 19 Tryz.func70 rfl rfl (by decide) [(72, .c ww), (128, .c wy), (136, .c Ah)] (fun _ => rfl) (fun _ => rfl) (fun _ _ => rfl) (fun (q : (Rat × Rat × Rat) × Rat) (a : Rat × Rat × Rat) (b_ : Rat × Rat × Rat) b hx hp => jq (up_b (Bnds.h3 hx).1 (Bnds.h3 hx).2.1 (Bnds.h3 hx).2.2)) (fun (q : (Rat × Rat × Rat) × Rat) (a : Rat × Rat × Rat) (b_ : Rat × Rat × Rat) hx hp => by
 exact ⟨.nil, kcast (by kernel_rfl) ((rfl : (qh (subV b_ a) q.1, dotQ (qh (subV b_ a) q.1) a) = upP q a b_))⟩)
abbrev Eu : Ctr Tryz.prog := FI.c JP
abbrev JR : FI := ⟨62, [(.pr (.pr .rat (.pr .rat .rat)) .rat), (.pr .rat (.pr .rat .rat)), (.pr .rat (.pr .rat .rat))], [(.p (.p (.n 16777216) (.p (.n 16777216) (.n 16777216))) (.n 16777216)), (.p (.n 1048576) (.p (.n 1048576) (.n 1048576))), (.p (.n 1048576) (.p (.n 1048576) (.n 1048576)))], fun _ => [], fun b z => (fun (q : (Rat × Rat × Rat) × Rat) (a : Rat × Rat × Rat) (b_ : Rat × Rat × Rat) => .c (.agg [.dt tPl (.p (bV3 (15 * max (b1 b).mx (b2 b).mx + 6 * (b0 b).mx + 11)) (.n (15 * max (b1 b).mx (b2 b).mx + 6 * (b0 b).mx + 11))) (upP q a b_)])) z.1 z.2.1 z.2.2⟩
theorem JS : JR.OK Tryz.prog := mkF hmix 19 Tryz.func62 rfl rfl (by decide) [(25, .c AX), (33, .c wx), (118, .c Cn)] (fun _ => rfl) (fun _ => rfl) (fun _ _ => rfl) (fun (q : (Rat × Rat × Rat) × Rat) (a : Rat × Rat × Rat) (b_ : Rat × Rat × Rat) b hx hp => jq (up_b (Bnds.h3 hx).1 (Bnds.h3 hx).2.1 (Bnds.h3 hx).2.2)) (fun (q : (Rat × Rat × Rat) × Rat) (a : Rat × Rat × Rat) (b_ : Rat × Rat × Rat) hx hp => by
 exact ⟨.nil, kcast (by kernel_rfl) ((rfl : (qh (subV b_ a) q.1, dotQ (qh (subV b_ a) q.1) a) = upP q a b_))⟩)
abbrev JQ : Ctr Tryz.prog := FI.c JS
abbrev P6 : FI := ⟨67, [(.pr (.pr .rat (.pr .rat .rat)) (.pr (.pr .rat (.pr .rat .rat)) (.pr .rat (.pr .rat .rat))))], [(.p (.p (.n 1048576) (.p (.n 1048576) (.n 1048576))) (.p (.p (.n 1048576) (.p (.n 1048576) (.n 1048576))) (.p (.n 1048576) (.p (.n 1048576) (.n 1048576)))))], fun _ => [], fun b z => (fun (t : (Rat × Rat × Rat) × (Rat × Rat × Rat) × Rat × Rat × Rat) => .c (.one (.dt .bool .u (decide (qL t = (0, 0, 0)))))) z⟩
theorem P7 : P6.OK Tryz.prog := mkF hmix 15 Tryz.func67 rfl rfl (by decide) [(128, .c wy), (135, .c Dv), (136, .c Ah)] (fun _ => rfl) (fun _ => rfl) (fun _ _ => rfl) (fun (t : (Rat × Rat × Rat) × (Rat × Rat × Rat) × Rat × Rat × Rat) b hx hp => qc trivial rfl) (fun (t : (Rat × Rat × Rat) × (Rat × Rat × Rat) × Rat × Rat × Rat) hx hp => by
 exact ⟨.nil, kcast (by kernel_rfl) ((rfl : decide ((qh (subV t.2.1 t.1) (subV t.2.2 t.1)) = (0, 0, 0)) = decide (qL t = (0, 0, 0))))⟩)
abbrev Iq : Ctr Tryz.prog := FI.c P7
abbrev P9 : FI := ⟨58, [(.pr (.pr .rat (.pr .rat .rat)) (.pr (.pr .rat (.pr .rat .rat)) (.pr .rat (.pr .rat .rat))))], [(.p (.p (.n 1048576) (.p (.n 1048576) (.n 1048576))) (.p (.p (.n 1048576) (.p (.n 1048576) (.n 1048576))) (.p (.n 1048576) (.p (.n 1048576) (.n 1048576)))))], fun _ => [], fun b z => (fun (t : (Rat × Rat × Rat) × (Rat × Rat × Rat) × Rat × Rat × Rat) => .c (.one (.dt .bool .u (decide (qL t = (0, 0, 0)))))) z⟩
theorem Pa : P9.OK Tryz.prog := mkF hmix 15 Tryz.func58 rfl rfl (by decide) [(25, .c AX), (118, .c Cn), (126, .c NM)] (fun _ => rfl) (fun _ => rfl) (fun _ _ => rfl) (fun (t : (Rat × Rat × Rat) × (Rat × Rat × Rat) × Rat × Rat × Rat) b hx hp => qc trivial rfl) (fun (t : (Rat × Rat × Rat) × (Rat × Rat × Rat) × Rat × Rat × Rat) hx hp => by
 exact ⟨.nil, kcast (by kernel_rfl) ((rfl : decide ((qh (subV t.2.1 t.1) (subV t.2.2 t.1)) = (0, 0, 0)) = decide (qL t = (0, 0, 0))))⟩)
abbrev P8 : Ctr Tryz.prog := FI.c Pa
abbrev KR : FI := ⟨68, [(.pr (.pr .rat (.pr .rat .rat)) (.pr (.pr .rat (.pr .rat .rat)) (.pr .rat (.pr .rat .rat))))], [(.p (.p (.n 1048576) (.p (.n 1048576) (.n 1048576))) (.p (.p (.n 1048576) (.p (.n 1048576) (.n 1048576))) (.p (.n 1048576) (.p (.n 1048576) (.n 1048576)))))], fun _ => [], fun b z => (fun (t : (Rat × Rat × Rat) × (Rat × Rat × Rat) × Rat × Rat × Rat) => .c (.agg [.dt tPl (.p (bV3 (27 * (b0 b).mx + 17)) (.n (27 * (b0 b).mx + 17))) (qf t)])) z⟩
theorem KS : KR.OK Tryz.prog := mkF hmix 16 Tryz.func68 rfl rfl (by decide) [(137, .c U0)] (fun _ => rfl) (fun _ => rfl) (fun _ _ => rfl) (fun (t : (Rat × Rat × Rat) × (Rat × Rat × Rat) × Rat × Rat × Rat) b hx hp => jq (CP (Bnds.h1 hx).t3)) (fun (t : (Rat × Rat × Rat) × (Rat × Rat × Rat) × Rat × Rat × Rat) hx hp => by
 exact ⟨.nil, kcast (by kernel_rfl) ((rfl : qf (t.1, t.2.1, t.2.2) = qf t))⟩)
abbrev FK : Ctr Tryz.prog := FI.c KS
abbrev KU : FI := ⟨59, [(.pr (.pr .rat (.pr .rat .rat)) (.pr (.pr .rat (.pr .rat .rat)) (.pr .rat (.pr .rat .rat))))], [(.p (.p (.n 1048576) (.p (.n 1048576) (.n 1048576))) (.p (.p (.n 1048576) (.p (.n 1048576) (.n 1048576))) (.p (.n 1048576) (.p (.n 1048576) (.n 1048576)))))], fun _ => [], fun b z => (fun (t : (Rat × Rat × Rat) × (Rat × Rat × Rat) × Rat × Rat × Rat) => .c (.agg [.dt tPl (.p (bV3 (27 * (b0 b).mx + 17)) (.n (27 * (b0 b).mx + 17))) (qf t)])) z⟩
theorem KV : KU.OK Tryz.prog := mkF hmix 21 Tryz.func59 rfl rfl (by decide) [(25, .c AX), (33, .c wx), (118, .c Cn)] (fun _ => rfl) (fun _ => rfl) (fun _ _ => rfl) (fun (t : (Rat × Rat × Rat) × (Rat × Rat × Rat) × Rat × Rat × Rat) b hx hp => jq (CP (Bnds.h1 hx).t3)) (fun (t : (Rat × Rat × Rat) × (Rat × Rat × Rat) × Rat × Rat × Rat) hx hp => by
 exact ⟨.nil, kcast (by kernel_rfl) ((rfl : (qh (subV t.2.1 t.1) (subV t.2.2 t.1), dotQ (qh (subV t.2.1 t.1) (subV t.2.2 t.1)) t.1) = qf t))⟩)
abbrev KT : Ctr Tryz.prog := FI.c KV
abbrev OM : FI := ⟨17, [(.pr (.pr .rat (.pr .rat .rat)) (.pr (.pr .rat (.pr .rat .rat)) (.pr .rat (.pr .rat .rat)))), (.pr .rat (.pr .rat .rat))], [(.p (.p (.n 4096) (.p (.n 4096) (.n 4096))) (.p (.p (.n 4096) (.p (.n 4096) (.n 4096))) (.p (.n 4096) (.p (.n 4096) (.n 4096))))), (.p (.n 4096) (.p (.n 4096) (.n 4096)))], fun _ => [], fun b z => (fun (t : (Rat × Rat × Rat) × (Rat × Rat × Rat) × Rat × Rat × Rat) (p : Rat × Rat × Rat) => .c (.agg [.dt .rat (.n (168 * max (b0 b).mx (b1 b).mx + 116)) (qx t p)])) z.1 z.2⟩
theorem ON : OM.OK Tryz.prog := mkF hmix 77 Tryz.func17 rfl rfl (by decide) [(65, .c Rc), (66, .c Ls), (67, .c Iq), (68, .c FK), (69, .c HC), (70, .c Eu), (71, .c Ek), (72, .c ww), (73, .c Hi), (74, .c Ej)] (fun _ => rfl) (fun _ => rfl) (fun _ _ => rfl) (fun (t : (Rat × Rat × Rat) × (Rat × Rat × Rat) × Rat × Rat × Rat) (p : Rat × Rat × Rat) b hx hp => jq (Kk (Bnds.h2 hx).1 (Bnds.h2 hx).2)) (fun (t : (Rat × Rat × Rat) × (Rat × Rat × Rat) × Rat × Rat × Rat) (p : Rat × Rat × Rat) hx hp => by
 exact ⟨.nil, kcast (by kernel_rfl) (And.intro (fun (h1 : decide (qL t = (0, 0, 0)) = true) => (Fv (of_decide_eq_true h1) : minQ (minQ (segQ t.1 t.2.1 p) (segQ t.2.1 t.2.2 p)) (segQ t.2.2 t.1 p) = qx t p)) (fun (h2 : ¬ (decide (qL t = (0, 0, 0)) = true)) => And.intro (fun (h3 : 0 < cmpQ (dotQ ((upP (qf t) t.1 t.2.1).1) p) ((upP (qf t) t.1 t.2.1).2)) => (z6 (fun e => h2 (decide_eq_true e)) (.inl h3) : minQ (minQ (segQ t.1 t.2.1 p) (segQ t.2.1 t.2.2 p)) (segQ t.2.2 t.1 p) = qx t p)) (fun (h4 : ¬ (0 < cmpQ (dotQ ((upP (qf t) t.1 t.2.1).1) p) ((upP (qf t) t.1 t.2.1).2))) => And.intro (fun (h5 : 0 < cmpQ (dotQ ((upP (qf t) t.2.1 t.2.2).1) p) ((upP (qf t) t.2.1 t.2.2).2)) => (z6 (fun e => h2 (decide_eq_true e)) (.inr (.inl h5)) : minQ (minQ (segQ t.1 t.2.1 p) (segQ t.2.1 t.2.2 p)) (segQ t.2.2 t.1 p) = qx t p)) (fun (h6 : ¬ (0 < cmpQ (dotQ ((upP (qf t) t.2.1 t.2.2).1) p) ((upP (qf t) t.2.1 t.2.2).2))) => And.intro (fun (h7 : 0 < cmpQ (dotQ ((upP (qf t) t.2.2 t.1).1) p) ((upP (qf t) t.2.2 t.1).2)) => (z6 (fun e => h2 (decide_eq_true e)) (.inr (.inr h7)) : minQ (minQ (segQ t.1 t.2.1 p) (segQ t.2.1 t.2.2 p)) (segQ t.2.2 t.1 p) = qx t p)) (fun (h8 : ¬ (0 < cmpQ (dotQ ((upP (qf t) t.2.2 t.1).1) p) ((upP (qf t) t.2.2 t.1).2))) => (Fw (fun e => h2 (decide_eq_true e)) h4 h6 h8 : (((dotQ ((qf t).1) p) - ((qf t).2)) * ((dotQ ((qf t).1) p) - ((qf t).2))) / (dotQ ((qf t).1) ((qf t).1)) = qx t p))))))⟩)
abbrev Il : Ctr Tryz.prog := FI.c ON
abbrev OP : FI := ⟨31, [(.pr (.pr .rat (.pr .rat .rat)) (.pr (.pr .rat (.pr .rat .rat)) (.pr .rat (.pr .rat .rat)))), (.pr .rat (.pr .rat .rat))], [(.p (.p (.n 4096) (.p (.n 4096) (.n 4096))) (.p (.p (.n 4096) (.p (.n 4096) (.n 4096))) (.p (.n 4096) (.p (.n 4096) (.n 4096))))), (.p (.n 4096) (.p (.n 4096) (.n 4096)))], fun _ => [], fun b z => (fun (t : (Rat × Rat × Rat) × (Rat × Rat × Rat) × Rat × Rat × Rat) (p : Rat × Rat × Rat) => .c (.agg [.dt .rat (.n (168 * max (b0 b).mx (b1 b).mx + 116)) (qx t p)])) z.1 z.2⟩
theorem OQ : OP.OK Tryz.prog := mkF hmix 76 Tryz.func31 rfl rfl (by decide) [(27, .c Cr), (28, .c Cs), (33, .c wx), (58, .c P8), (59, .c KT), (62, .c JQ), (83, .c Rg), (84, .c Us), (85, .c NH), (86, .c M5)] (fun _ => rfl) (fun _ => rfl) (fun _ _ => rfl) (fun (t : (Rat × Rat × Rat) × (Rat × Rat × Rat) × Rat × Rat × Rat) (p : Rat × Rat × Rat) b hx hp => jq (Kk (Bnds.h2 hx).1 (Bnds.h2 hx).2)) (fun (t : (Rat × Rat × Rat) × (Rat × Rat × Rat) × Rat × Rat × Rat) (p : Rat × Rat × Rat) hx hp => by
 exact ⟨.nil, kcast (by kernel_rfl) (And.intro (fun (h1 : decide (qL t = (0, 0, 0)) = true) => (Fv (of_decide_eq_true h1) : minQ (minQ (segQ t.1 t.2.1 p) (segQ t.2.1 t.2.2 p)) (segQ t.2.2 t.1 p) = qx t p)) (fun (h2 : ¬ (decide (qL t = (0, 0, 0)) = true)) => And.intro (fun (h3 : 0 < cmpQ (dotQ ((upP (qf t) t.1 t.2.1).1) p) ((upP (qf t) t.1 t.2.1).2)) => (z6 (fun e => h2 (decide_eq_true e)) (.inl h3) : minQ (minQ (segQ t.1 t.2.1 p) (segQ t.2.1 t.2.2 p)) (segQ t.2.2 t.1 p) = qx t p)) (fun (h4 : ¬ (0 < cmpQ (dotQ ((upP (qf t) t.1 t.2.1).1) p) ((upP (qf t) t.1 t.2.1).2))) => And.intro (fun (h5 : 0 < cmpQ (dotQ ((upP (qf t) t.2.1 t.2.2).1) p) ((upP (qf t) t.2.1 t.2.2).2)) => (z6 (fun e => h2 (decide_eq_true e)) (.inr (.inl h5)) : minQ (minQ (segQ t.1 t.2.1 p) (segQ t.2.1 t.2.2 p)) (segQ t.2.2 t.1 p) = qx t p)) (fun (h6 : ¬ (0 < cmpQ (dotQ ((upP (qf t) t.2.1 t.2.2).1) p) ((upP (qf t) t.2.1 t.2.2).2))) => And.intro (fun (h7 : 0 < cmpQ (dotQ ((upP (qf t) t.2.2 t.1).1) p) ((upP (qf t) t.2.2 t.1).2)) => (z6 (fun e => h2 (decide_eq_true e)) (.inr (.inr h7)) : minQ (minQ (segQ t.1 t.2.1 p) (segQ t.2.1 t.2.2 p)) (segQ t.2.2 t.1 p) = qx t p)) (fun (h8 : ¬ (0 < cmpQ (dotQ ((upP (qf t) t.2.2 t.1).1) p) ((upP (qf t) t.2.2 t.1).2))) => (Fw (fun e => h2 (decide_eq_true e)) h4 h6 h8 : (((dotQ ((qf t).1) p) - ((qf t).2)) * ((dotQ ((qf t).1) p) - ((qf t).2))) / (dotQ ((qf t).1) ((qf t).1)) = qx t p))))))⟩)
abbrev OO : Ctr Tryz.prog := FI.c OQ
section
section
variable {P : Program}
def G8 (P : Program) (t : TypeId) : Option (Nat × Nat) :=
 match P.underlying t with
 | some (.array n e) => match P.info? e with
  | some i => some (n, i.size)
  | none => none
 | _ => none
theorem J2 {t : TypeId} {n s : Nat} (h : G8 P t = some (n, s)) : ∃ e i, P.underlying t = some (.array n e) ∧ P.info? e = some i ∧ i.size = s := by
 unfold G8 at h
 split at h
 ·rename_i n' e he
  split at h
  ·rename_i i hi
   simp only [Option.some.injEq, Prod.mk.injEq] at h; obtain ⟨rfl, rfl⟩ := h
   exact ⟨e, i, he, hi, rfl⟩
  ·cases h
 ·cases h
def w7 (t : Ty) (b : Bd) : Nat → List WA → Option (List t.den)
 | 0, [] => some []
 | 0, _ :: _ => none
 | n + 1, l => match cutW 400 l t.w with
  | some (m, r) => match reify t m with
   | some (b', x, []) => bif b'.le b then (match w7 t b n r with | some xs => some (x :: xs) | none => none) else none
   | _ => none
  | none => none
theorem As {t : Ty} {b : Bd} : ∀ {n : Nat} {l : List WA} {xs : List t.den}, w7 t b n l = some xs → AImps (WAs.exp l) (allA t xs) ∧ xs.length = n ∧ (WAs.ok l → ∀ x ∈ xs, Bnd t b x)
 | 0, [], xs, h => by simp [w7] at h; subst h; exact ⟨trivial, rfl, fun _ x hx => by simp at hx⟩
 | 0, _ :: _, _, h => by simp [w7] at h
 | n + 1, l, xs, h => by
  simp only [w7] at h
  cases hc : cutW 400 l t.w with
  | none => rw [hc] at h; cases h
  | some q =>
   obtain ⟨m, r⟩ := q
   rw [hc] at h; simp only at h
   obtain ⟨c1, c2, c3⟩ := vM hc
   split at h
   ·rename_i b' x hr
    cases hb : b'.le b with
    | false => rw [hb] at h; cases h
    | true =>
     rw [hb] at h; simp only [cond_true] at h
     cases hx : w7 t b n r with
     | none => rw [hx] at h; cases h
     | some ys =>
      rw [hx] at h; simp at h; subst h
      obtain ⟨m', e1, i1, o1⟩ := jo hr
      have e1 : WAs.exp m = m' := by rw [e1]; simp [WAs.exp]
      subst e1
      obtain ⟨i2, l2, o2⟩ := As hx
      refine ⟨by rw [c1]; exact z5 i1 i2, by simp [l2], fun hk y hy => ?_⟩
      rcases List.mem_cons.1 hy with rfl | hy
      ·exact Bnd.mono hb (o1 (c3 hk).1).1
      ·exact o2 (c3 hk).2 y hy
   ·cases h
theorem Ie {n : Nat} {Ks : List Nat} {st : WSt} (hk : st.Ok) {k : Nat} {B B' : WB} (hL : look st.L k = some B) (hi : BImp k B.exp B'.exp) (hB : B'.ok) :
    EntW n Ks st ⟨st.rm, st.m, st.rL, (k, B') :: st.L⟩ ∧ (⟨st.rm, st.m, st.rL, (k, B') :: st.L⟩ : WSt).Ok := by
  have hlk : ∀ q b', qi ⟨st.rm, st.m, st.rL, (k, B') :: st.L⟩ q = some b' → (q = k ∧ b' = B') ∨ (q ≠ k ∧ qi st q = some b') := by
    intro q b' h
    unfold qi at h
    simp only [look] at h
    by_cases e : k = q
    · subst e; simp at h; exact .inl ⟨rfl, h.symm⟩
    · rw [beqF e] at h; exact .inr ⟨fun e' => e e'.symm, h⟩
  have hlB : qi st k = some B := by unfold qi; rw [hL]
  refine ⟨Dg (fun t v' h => ⟨v', h, fun _ _ _ h => h⟩) fun q b' h => ?_, fun t v h => hk.m t v h, fun q b' h => ?_, hk.dm, fun q hq => ?_⟩
  · rcases hlk q b' h with ⟨rfl, rfl⟩ | ⟨_, h⟩
    · exact ⟨B, hlB, hi⟩
    · exact ⟨b', h, fun _ _ _ h => h⟩
  · rcases hlk q b' h with ⟨rfl, rfl⟩ | ⟨_, h⟩
    · exact hB
    · exact hk.l q b' h
  · have h0 := hk.dl q hq
    have hne : k ≠ q := fun e => by subst e; rw [h0] at hL; cases hL
    show look ((k, B') :: st.L) q = none
    simp only [look, beqF hne, cond_false]; exact h0
theorem FG {α : Type} {l : List (Nat × α)} {k q : Nat} (h : k ≠ q) : look (l.filter fun p => !Nat.beq p.1 k) q = look l q := by
 induction l with
 | nil => rfl
 | cons p r ih =>
  obtain ⟨a, v⟩ := p
  simp only [List.filter_cons]
  by_cases e : a = k
  ·subst e
   rw [if_neg (by simp), ih]; simp only [look, beqF h, cond_false]
  ·rw [if_pos (by rw [beqF e]; rfl)]
   simp only [look, ih]
theorem Mo {n : Nat} {Ks : List Nat} {st : WSt} {k : Nat} {B : WB} (hk : (⟨st.rm, st.m, st.rL, (k, B) :: st.L⟩ : WSt).Ok) :
    EntW n Ks ⟨st.rm, st.m, st.rL, (k, B) :: st.L⟩ ⟨st.rm, st.m, st.rL, (k, B) :: st.L.filter fun p => !Nat.beq p.1 k⟩ ∧ (⟨st.rm, st.m, st.rL, (k, B) :: st.L.filter fun p => !Nat.beq p.1 k⟩ : WSt).Ok := by
  have e : ∀ q, look ((k, B) :: st.L.filter fun p => !Nat.beq p.1 k) q = look ((k, B) :: st.L) q := by
    intro q
    by_cases h : k = q
    · subst h; simp [look]
    · simp only [look, beqF h, cond_false]; exact FG h
  have e2 : ∀ q, qi ⟨st.rm, st.m, st.rL, (k, B) :: st.L.filter fun p => !Nat.beq p.1 k⟩ q = qi ⟨st.rm, st.m, st.rL, (k, B) :: st.L⟩ q := by
    intro q; unfold qi; simp only [e]
  exact ⟨GI (fun t v h => h) (fun q b h => by rw [← e2]; exact h), fun t v h => hk.m t v h, fun q b h => hk.l q b (by rw [← e2]; exact h), hk.dm, fun q hq => by rw [show look _ q = _ from e q]; exact hk.dl q hq⟩
theorem Step.same {w : World} {H : Heap} {β : Bm} (k : Nat) (h : Heap.On H w) : Step w H β [k] [] [] w H β :=
 ⟨rfl, rfl, rfl, Nat.le_refl _, fun _ _ _ => rfl, Heap.Le.refl _, fun b hb => .inl hb, h, fun _ _ => rfl, fun k hk => by simp at hk, fun k hk => by simp at hk⟩
end
end
section
section
variable {P : Program}
def ipV (k : Nat) (t : Ty) (b : Bd) (x : t.den) : WV → Option WV
 | .c (.one (.loc k' off)) => bif Nat.beq k' k && Nat.ble off t.w then some (.c (.one (.ip t b x off))) else none
 | _ => none
theorem MD {k : Nat} {t : Ty} {b : Bd} {x : t.den} {v v' : WV} (h : ipV k t b x v = some v') (hb : Bnd t b x) : RelV k (cellsC t x) none v.exp v'.exp ∧ v'.ok := by
 unfold ipV at h
 split at h
 ·rename_i k' off
  cases hc : Nat.beq k' k && Nat.ble off t.w with
  | false => rw [hc] at h; cases h
  | true =>
   rw [hc] at h
   simp only [cond_true, Option.some.injEq] at h; subst h
   simp only [Bool.and_eq_true] at hc
   have e := Nat.eq_of_beq_eq_true hc.1; subst e
   have hle : off ≤ t.w := Nat.le_of_ble_eq_true hc.2
   refine ⟨Lx (Tj (m := t.w - off) (by rw [qS]; omega) ?_), hb, rfl⟩
   exact List.take_of_length_le (by rw [List.length_drop, qS]; omega)
 ·cases h
def CA (k : Nat) (t : Ty) (b : Bd) (x : t.den) (ts : List Nat) : List (Nat × WV) → Option (List (Nat × WV))
 | [] => some []
 | p :: r => match CA k t b x ts r with
  | none => none
  | some r' => bif memN k p.2.ids then (bif memN p.1 ts then (match ipV k t b x p.2 with | some v => some ((p.1, v) :: r') | none => none) else some r') else some (p :: r')
theorem DU {k : Nat} {t : Ty} {b : Bd} {x : t.den} {ts : List Nat} (hb : Bnd t b x) : ∀ {m m' : List (Nat × WV)}, CA k t b x ts m = some m' → (∀ p ∈ m, p.2.ok) → ∀ q ∈ m', ∃ p ∈ m, p.1 = q.1 ∧ RelV k (cellsC t x) none p.2.exp q.2.exp ∧ q.2.ok
 | [], m', h, _, q, hq => by simp [CA] at h; subst h; simp at hq
 | p :: r, m', h, hok, q, hq => by
  simp only [CA] at h
  cases h1 : CA k t b x ts r with
  | none => rw [h1] at h; cases h
  | some r' =>
   rw [h1] at h; simp only at h
   have ih := DU hb h1 (fun p hp => hok p (List.mem_cons_of_mem _ hp))
   have up : ∀ q ∈ r', ∃ p' ∈ p :: r, p'.1 = q.1 ∧ RelV k (cellsC t x) none p'.2.exp q.2.exp ∧ q.2.ok := fun q hq => by
    obtain ⟨p', a, c⟩ := ih q hq; exact ⟨p', List.mem_cons_of_mem _ a, c⟩
   cases h2 : memN k p.2.ids with
   | false =>
    rw [h2] at h; simp at h; subst h
    rcases List.mem_cons.1 hq with rfl | hq
    ·exact ⟨q, List.mem_cons_self, rfl, CT, hok q List.mem_cons_self⟩
    ·exact up q hq
   | true =>
    rw [h2] at h; simp only [cond_true] at h
    cases h3 : memN p.1 ts with
    | false => rw [h3] at h; simp at h; subst h; exact up q hq
    | true =>
     rw [h3] at h; simp only [cond_true] at h
     split at h
     ·rename_i v hv
      simp only [Option.some.injEq] at h; subst h
      rcases List.mem_cons.1 hq with rfl | hq
      ·obtain ⟨q1, q2⟩ := MD hv hb; exact ⟨p, List.mem_cons_self, rfl, q1, q2⟩
      ·exact up q hq
     ·cases h
def O5 (k : Nat) (t : Ty) (b : Bd) (ts : List Nat) (Ks : List Nat) (st : WSt) : Option (List Prop × WSt) :=
 bif Cz Ks st k && st.L.all (fun p => Nat.beq p.1 k || !memN k p.2.ids) then (match look st.L k with
  | some (.rig l) => match reify t l with
   | some (b', x, []) => bif b'.le b then (match CA k t b x ts st.m with
    | some m' => some ([], ⟨st.rm, m', st.rL, st.L.filter fun p => !Nat.beq p.1 k⟩)
    | none => none) else none
   | _ => none
  | _ => none) else none
theorem mem_filt {α : Type} {l : List (Nat × α)} {k : Nat} {q : Nat × α} (h : q ∈ l.filter fun p => !Nat.beq p.1 k) : q ∈ l ∧ q.1 ≠ k := by
 obtain ⟨a, c⟩ := List.mem_filter.1 h
 exact ⟨a, fun e => by subst e; simp at c⟩
def frzP (k : Nat) (t : Ty) (b : Bd) (ts : List Nat) : PExt := ⟨O5 k t b ts, by
 intro n Ks st st' vc hk h hvc
 unfold O5 at h
 cases hc : Cz Ks st k && st.L.all (fun p => Nat.beq p.1 k || !memN k p.2.ids) with
 | false => rw [hc] at h; cases h
 | true =>
  rw [hc] at h; simp only [cond_true] at h
  rw [Bool.and_eq_true] at hc
  obtain ⟨hc, hc6⟩ := hc
  unfold Cz at hc
  simp only [Bool.and_eq_true, List.all_eq_true] at hc hc6
  obtain ⟨⟨⟨⟨⟨c0, c1⟩, c2⟩, c3⟩, c4⟩, c5⟩ := hc
  split at h
  ·rename_i l hl
   split at h
   ·rename_i b' x hr
    cases hb : b'.le b with
    | false => rw [hb] at h; cases h
    | true =>
     rw [hb] at h; simp only [cond_true] at h
     split at h
     ·rename_i m' hm
      simp only [Option.some.injEq, Prod.mk.injEq] at h; obtain ⟨rfl, rfl⟩ := h
      have hlk : qi st k = some (.rig l) := by unfold qi; rw [hl]
      have hlok : WAs.ok l := hk.l k _ hlk
      obtain ⟨m0, e1, i1, o1⟩ := jo hr
      have e1 : WAs.exp l = m0 := by rw [e1]; simp [WAs.exp]
      subst e1
      have hbn : Bnd t b x := Bnd.mono hb (o1 hlok).1
      have hB1 : (WB.rig [.dt t b x]).ok := j1 hbn
      obtain ⟨ent1, ok1⟩ := Ie (n := n) (Ks := Ks) hk hl (B := .rig l) (B' := .rig [.dt t b x]) (by
       show BImp k (.rigid (WAs.exp l)) (.rigid (WAs.exp [.dt t b x]))
       rw [jy]; exact jW i1) hB1
      have hmok : ∀ p ∈ st.m, p.2.ok := fun p hp => hk.m p.1 p.2 (by unfold qv; rw [jQ c1 hp])
      have sm := DU hbn hm hmok
      have hM : ∀ t' v', qv ⟨st.rm, m', st.rL, st.L.filter fun p => !Nat.beq p.1 k⟩ t' = some v' → ∃ v, qv st t' = some v ∧ RelV k (cellsC t x) none v.exp v'.exp ∧ v'.ok := by
       intro t' v' hv
       unfold qv at hv
       simp only at hv
       cases hl : look m' t' with
       | some x =>
        rw [hl] at hv; simp at hv; subst hv
        obtain ⟨p, hp, e, h1, h2⟩ := sm _ (qG hl)
        have e' : p.1 = t' := e
        exact ⟨p.2, by unfold qv; rw [← e', jQ c1 hp], h1, h2⟩
       | none =>
        rw [hl] at hv; simp only at hv
        have h3 : qv st t' = some v' := by unfold qv; rw [hk.dm t' (by rw [hv]; simp)]; exact hv
        exact ⟨v', h3, CT, hk.m t' v' h3⟩
      have hB : ∀ q b', qi ⟨st.rm, m', st.rL, st.L.filter fun p => !Nat.beq p.1 k⟩ q = some b' → q ≠ k ∧ qi st q = some b' ∧ b'.ok := by
       intro q b' hv
       unfold qi at hv
       simp only at hv
       cases hl : look (st.L.filter fun p => !Nat.beq p.1 k) q with
       | some y =>
        rw [hl] at hv; simp at hv; subst hv
        have hq : q ≠ k := (mem_filt (qG hl)).2
        rw [FG (fun e => hq e.symm)] at hl
        have h3 : qi st q = some y := by unfold qi; rw [hl]
        exact ⟨hq, h3, hk.l q y h3⟩
       | none =>
        rw [hl] at hv; simp only at hv
        have h3 : qi st q = some b' := by unfold qi; rw [hk.dl q (by rw [hv]; simp)]; exact hv
        have h4 := c5 _ (qG hv)
        simp only [Bool.and_eq_true, Bool.not_eq_true'] at h4
        exact ⟨fun e => by subst e; simp at h4, h3, hk.l q b' h3⟩
      have e1L : ∀ q, q ≠ k → qi ⟨st.rm, st.m, st.rL, (k, WB.rig [.dt t b x]) :: st.L⟩ q = qi st q := by
       intro q hq
       unfold qi; simp only [look, beqF (fun e => hq e.symm), cond_false]
      refine ⟨Ent.trans ent1 ?_, ⟨fun t' v' h => (hM t' v' h).choose_spec.2.2, fun q b' h => (hB q b' h).2.2, ?_, ?_⟩, rfl, rfl⟩
      ·refine GJ (k := k) (cells := cellsC t x) (g := none) c0 (fun k0 hk0 => ?_) (.inl ⟨rfl, ?_⟩) ?_ ?_
       ·rw [qB]
        by_cases e : k0 = k
        ·subst e; unfold qi; simp [look]
        ·rw [e1L k0 e]
         obtain ⟨x, hx⟩ := Option.isSome_iff_exists.1 (c3 k0 hk0)
         rw [hx]; simp
       ·rw [qB]
        have : qi ⟨st.rm, st.m, st.rL, (k, WB.rig [.dt t b x]) :: st.L⟩ k = some (.rig [.dt t b x]) := by unfold qi; simp [look]
        rw [this]
        simp only [Option.map_some, WB.exp, jy]; rfl
       ·intro t' av' hv
        rw [jc] at hv
        cases hl : qv ⟨st.rm, m', st.rL, st.L.filter fun p => !Nat.beq p.1 k⟩ t' with
        | none => rw [hl] at hv; cases hv
        | some v' =>
         rw [hl] at hv; simp at hv; subst hv
         obtain ⟨v, h1, h2, _⟩ := hM t' v' hl
         exact ⟨v.exp, by rw [jc]; show (qv st t').map _ = _; rw [h1]; rfl, h2⟩
       ·intro q b' hv
        rw [qB] at hv
        cases hl : qi ⟨st.rm, m', st.rL, st.L.filter fun p => !Nat.beq p.1 k⟩ q with
        | none => rw [hl] at hv; cases hv
        | some b1 =>
         rw [hl] at hv; simp at hv; subst hv
         obtain ⟨h0, h1, _⟩ := hB q b1 hl
         exact ⟨h0, b1.exp, by rw [qB, e1L q h0, h1]; rfl, F4⟩
      ·intro t' ht'
       show look m' t' = none
       refine qT.2 fun q hq e => ?_
       obtain ⟨p, hp, e', _⟩ := sm q hq
       exact absurd e (fun e => (qT.1 (hk.dm t' ht')) p hp (e'.trans e))
      ·intro q hq
       show look (st.L.filter fun p => !Nat.beq p.1 k) q = none
       exact qT.2 fun q' hq' e => (qT.1 (hk.dl q hq)) q' (mem_filt hq').1 e
     ·cases h
   ·cases h
  ·cases h⟩
theorem Fu {H : Heap} : ∀ {l l' : List CAtom} {vs : List Value}, AImps (l.map CAtom.up) (l'.map CAtom.up) → CSats H l vs → CSats H l' vs
 | [], [], [], _, _ => trivial
 | a :: l, a' :: l', v :: vs, h, hs => by
  refine ⟨?_, Fu h.2 hs.2⟩
  have h1 : (CAtom.up a).sat (fun _ => none) H v := by cases a <;> exact hs.1
  have h2 := h.1 _ _ _ h1
  cases a' <;> exact h2
 | [], [], _ :: _, _, hs => hs.elim
 | _ :: _, _ :: _, [], _, hs => hs.elim
 | [], _ :: _, _, h, _ => h.elim
 | _ :: _, [], _, h, _ => h.elim
theorem Mv {t ty : TypeId} {x : Operand} {cells cells' : List CAtom} {n s : Nat} (h : G8 P t = some (n, s)) (hi : AImps (cells.map CAtom.up) (cells'.map CAtom.up)) :
    OpOk P (.slice t x none none none) ty [(x, .c (.one (.ptr cells)))] [] (.c (.one (.abs (flP cells' n)))) [] :=
  qt fun a w H β hins _ _ => by
    obtain ⟨e, i, h1, h2, rfl⟩ := J2 h
    obtain ⟨b, off, arr, hx, hH, hs⟩ := hins _ List.mem_cons_self
    simp only at hx hs
    have hlen := zB hi
    simp only [List.length_map] at hlen
    refine ⟨.slice (some ⟨b, off, none⟩) n n, ⟨_, n, rfl, Nat.le_refl _, .inr ⟨b, off, arr, rfl, hH, by rw [← hlen]; exact Fu hi hs⟩⟩, fun _ _ _ _ => ?_⟩
    have hb : (Instr.sliceBounds false n n none none none).run P w = .ok (0, n, n) w := by simp [Instr.sliceBounds]
    simp only [execOp, hx, Option.map_none, Instr.sliceAt, Sem.run_bind, qr h1, Result.andThen_ok, Instr.sureAddr, Sem.run_pure, hb, qU h2]
    by_cases e0 : n = 0
    · rw [if_pos e0]; simp
    · rw [if_neg e0]; simp [j6]
def O6 (P : Program) (t' : Ty) (b' : Bd) : Op → Option Tmp → (Nat → Option WB) → List WV → HR
 | .slice t _ none none none, _, _, [.c (.one (.ip T b x fo))] => match G8 P t with
  | some (n, s) => bif Nat.beq fo 0 && Nat.beq s t'.w then (match w7 t' b' n [.dt T b x] with
   | some xs => .ok [] (vL t' n b' xs) [] []
   | none => .bad) else .bad
  | none => .bad
 | _, _, _, _ => .bad
def P3 (t' : Ty) (b' : Bd) : Ext P := ⟨O6 P t' b', by
 intro op dst ty bl vs hl
 unfold O6
 split
 ·rename_i T b x fo
  split
  ·rename_i n s h
   cases h0 : Nat.beq fo 0 && Nat.beq s t'.w with
   | false => exact trivial
   | true =>
    simp only [Bool.and_eq_true] at h0
    have := Nat.eq_of_beq_eq_true h0.1; subst this
    simp only [cond_true]
    split
    ·rename_i xs hx
     intro hv _ _ kin hk _
     rw [qg hk]
     obtain ⟨i1, i2, i3⟩ := As hx
     have hok : Bnd T b x := (hv _ List.mem_cons_self).1
     have hxs := i3 (j1 hok)
     rw [jy, jr] at i1
     refine ⟨?_, ⟨⟨by omega, hxs⟩, rfl⟩, qk⟩
     show OpOk P _ _ _ _ (.c (.one (.abs (flP (allC t' xs) xs.length)))) _
     rw [i2]
     exact Mv (cells := (cellsC T x).drop 0) h (by rw [List.drop_zero]; exact i1)
    ·exact trivial
  ·exact trivial
 ·exact trivial⟩
end
end
section
section
variable {P : Program}
theorem Gn : ∀ {a b : List Atom} (i : Nat), AImps a b → AImps (a.drop i) (b.drop i)
 | a, b, 0, h => h
 | [], [], _ + 1, _ => trivial
 | _ :: _, _ :: _, i + 1, h => Gn i h.2
 | [], _ :: _, _ + 1, h => h.elim
 | _ :: _, [], _ + 1, h => h.elim
theorem Gp : ∀ {a b : List Atom} (i : Nat), AImps a b → AImps (a.take i) (b.take i)
 | [], [], 0, _ => trivial
 | _ :: _, _ :: _, 0, _ => trivial
 | [], [], _ + 1, _ => trivial
 | _ :: _, _ :: _, i + 1, h => ⟨h.1, Gp i h.2⟩
 | [], _ :: _, _, h => h.elim
 | _ :: _, [], _, h => h.elim
def gIxA (P : Program) : Op → Option Tmp → (Nat → Option WB) → List WV → HR
 | .indexAddr t _ _, _, _, [.c (.one (.loc k off)), .c (.one (.dt (.nat kk) b i))] => match P.underlying t with
  | some (.array m e) => match P.info? e with
   | some ie => bif Nat.beq off 0 then .ok [(show Nat from i) < m] (.c (.one (.el k i 0 ie.size))) [] [] else .bad
   | none => .bad
  | _ => .bad
 | _, _, _, _ => .bad
def AG : Ext P := ⟨gIxA P, by
 intro op dst ty bl vs hl
 unfold gIxA
 split
 ·rename_i t k off kk b i
  split
  ·rename_i m e hu
   split
   ·rename_i ie he
    cases h0 : Nat.beq off 0 with
    | false => exact trivial
    | true =>
     have := Nat.eq_of_beq_eq_true h0; subst this
     intro hv _ hvc kin hk _
     rw [qg hk]
     have hlt : (show Nat from i) < m := hvc _ List.mem_cons_self
     refine ⟨?_, ⟨trivial, rfl⟩, qk⟩
     show OpOk P (.indexAddr _ _ _) ty [(_, .c (.one (.loc k 0))), (_, vInt kk (Int.ofNat i))] [] (.c (.one (.loc k (i * ie.size + 0)))) []
     rw [show (show Nat from i) * ie.size + 0 = 0 + (Int.ofNat i).toNat * ie.size by simp]
     exact zl hu he (Int.natCast_nonneg _) (Int.ofNat_lt.2 hlt)
   ·exact trivial
  ·exact trivial
 ·exact trivial⟩
def gLdA (P : Program) (t : Ty) (b : Bd) (n : Nat) : Op → Option Tmp → (Nat → Option WB) → List WV → HR
 | .load ty _, _, bl, [.c (.one (.el k i fo w))] => match bl k, qN P ty with
  | some (.rig l), some (g, s) => match w7 t b n l with
   | some xs => bif Nat.beq fo 0 && (Nat.beq w t.w && (Nat.beq s t.w && beqB g t.agg)) && Nat.blt 0 t.w then .ok [i < n] (.c (mkC t b (gt t xs i))) [k] [] else .bad
   | none => .bad
  | _, _ => .bad
 | _, _, _, _ => .bad
theorem Ha {l : List Atom} (h : l.length = 1) : ∃ u, l = [u] := by
 match l, h with
 | [u], _ => exact ⟨u, rfl⟩
def AH (t : Ty) (b : Bd) (n : Nat) : Ext P := ⟨gLdA P t b n, by
 intro op dst ty bl vs hl
 unfold gLdA
 split
 ·rename_i ty' x k i fo w
  split
  ·rename_i l g s hbl hs
   split
   ·rename_i xs hx
    cases h0 : Nat.beq fo 0 && (Nat.beq w t.w && (Nat.beq s t.w && beqB g t.agg)) && Nat.blt 0 t.w with
    | false => exact trivial
    | true =>
     simp only [Bool.and_eq_true] at h0
     obtain ⟨⟨q1, q2, q3, q4⟩, q5⟩ := h0
     have q1 := Nat.eq_of_beq_eq_true q1; have q2 := Nat.eq_of_beq_eq_true q2; have q3 := Nat.eq_of_beq_eq_true q3
     have q5 : 0 < t.w := by simpa using q5
     subst q1 q2 q3
     intro hv hbo hvc kin hk hkb
     rw [jT hk hkb hbl]
     have hin : i < n := hvc _ List.mem_cons_self
     obtain ⟨i1, i2, i3⟩ := As hx
     have hxs := i3 (hbo k _ hbl)
     have hi : i < xs.length := by omega
     have hlen := zB i1
     have hcut := Gp t.w (Gn (i * t.w) i1)
     rw [EE t xs i hi] at hcut
     have hle : (i + 1) * t.w ≤ xs.length * t.w := Nat.mul_le_mul_right _ hi
     rw [Nat.succ_mul] at hle
     rw [vf] at hlen
     refine ⟨?_, C3 (Bnd.gt hxs hi), qk⟩
     have hb : g = t.agg := by cases g <;> cases h : t.agg <;> simp_all [beqB]
     subst hb
     show OpOk P (.load ty' x) _ [(x, .c (.one (.loc k (i * t.w + 0))))] [(k, .rigid (WAs.exp l))] (WV.exp (.c (mkC t b (gt t xs i)))) []
     rw [CG, Nat.add_zero]
     cases ha : t.agg with
     | true =>
      rw [ha] at hs
      refine (Ao hs rfl (by omega)).weak ?_ trivial
      unfold argC; rw [ha]
      exact Bj (DL hcut)
     | false =>
      rw [ha] at hs
      have hl1 : (((WAs.exp l).drop (i * t.w)).take t.w).length = 1 := by rw [List.length_take, List.length_drop, Ty.w_one ha]; rw [Ty.w_one ha] at hle hlen; omega
      obtain ⟨u, hu⟩ := Ha hl1
      obtain ⟨u', hu'⟩ := Ha ((zB hcut).symm.trans hl1)
      rw [hu, hu'] at hcut
      have hat : (WAs.exp l)[i * t.w]? = some u := by
       have h9 : ((WAs.exp l).drop (i * t.w))[0]? = some u := by
        have : (((WAs.exp l).drop (i * t.w)).take t.w)[0]? = some u := by rw [hu]; rfl
        rwa [List.getElem?_take_of_lt (by omega)] at this
       simpa using h9
      refine (Ap hs hat).weak ?_ trivial
      unfold argC; rw [ha, hu']
      exact Bj (DM hcut.1)
   ·exact trivial
  ·exact trivial
 ·exact trivial⟩
end
end
abbrev N9 : FI := ⟨248, [.rat], [(.n 68719476736)], fun _ => [], fun b z => (fun (x : Rat) => .tup [.one (.dt (.int .i64) (.n 4294967295) (smlV x)), .one (.dt .bool .u (smlB x))]) z⟩
theorem Na : N9.OK Tryz.prog := mkF hmix 33 Tryz.func248 rfl rfl (by decide) [] (fun _ => rfl) (fun _ => rfl) (fun _ _ => rfl) (fun (x : Rat) b hx hp => qF (qc (Nu x) rfl) (qF (qc trivial rfl) jv)) (fun (x : Rat) hx hp => by
 exact ⟨.nil, kcast (by kernel_rfl) (And.intro (fun (h1 : 0 < (denL x.den).length) => And.intro ((BD (.inl h1)).1 : 0 = smlV x) ((BD (.inl h1)).2 : false = smlB x)) (fun (h2 : ¬ (0 < (denL x.den).length)) => And.intro (fun (h3 : 1 < (limbs x.num.natAbs).length) => And.intro ((BD (.inr h3)).1 : 0 = smlV x) ((BD (.inr h3)).2 : false = smlB x)) (fun (h4 : ¬ (1 < (limbs x.num.natAbs).length)) => And.intro (fun (h5 : (limbs x.num.natAbs).length = 0) => And.intro ((IP h2 h4 h5).1 : 0 = smlV x) ((IP h2 h4 h5).2 : true = smlB x)) (fun (h6 : ¬ ((limbs x.num.natAbs).length = 0)) => I (by omega : 0 < (limbs x.num.natAbs).length) (And.intro (fun (h7 : x.num < 0) => And.intro ((IQ h2 h4 h6 h7).1 : -(((limbs x.num.natAbs).getD 0 0 : Nat) : Int) = smlV x) ((IQ h2 h4 h6 h7).2 : decide ((limbs x.num.natAbs).getD 0 0 < 268435456) = smlB x)) (fun (h8 : ¬ (x.num < 0)) => And.intro ((IR h2 h4 h6 h8).1 : (((limbs x.num.natAbs).getD 0 0 : Nat) : Int) = smlV x) ((IR h2 h4 h6 h8).2 : decide ((limbs x.num.natAbs).getD 0 0 < 268435456) = smlB x)))))))⟩)
abbrev N8 : Ctr Tryz.prog := FI.c Na
abbrev Qf : FI := ⟨249, [(.int .i64)], [(.n 4611686018427387903)], fun _ => [], fun b z => (fun (v : Int) => .c (.one (.dt (.int .i64) (.n 1) (sgnZ v)))) z⟩
theorem Qg : Qf.OK Tryz.prog := mkF hmix 9 Tryz.func249 rfl rfl (by decide) [] (fun _ => rfl) (fun _ => rfl) (fun _ _ => rfl) (fun (v : Int) b hx hp => qc (TR v) rfl) (fun (v : Int) hx hp => by
 exact ⟨.nil, kcast (by kernel_rfl) (And.intro (fun (h1 : 0 < v) => ((if_pos h1).symm : 1 = sgnZ v)) (fun (h2 : ¬ (0 < v)) => And.intro (fun (h3 : v < 0) => (((if_neg h2).trans (if_pos h3)).symm : (-1) = sgnZ v)) (fun (h4 : ¬ (v < 0)) => (((if_neg h2).trans (if_neg h4)).symm : 0 = sgnZ v))))⟩)
abbrev Qe : Ctr Tryz.prog := FI.c Qg
theorem nb2 {b : Bool} (h : ¬ (!b) = true) : b = true := by cases b <;> simp_all
abbrev Qc : FI := ⟨188, [(.pr (.pr .rat (.pr .rat .rat)) .rat), (.pr .rat (.pr .rat .rat))], [(.p (.p (.n 16777216) (.p (.n 16777216) (.n 16777216))) (.n 16777216)), (.p (.n 67108864) (.p (.n 67108864) (.n 67108864)))], fun _ => [], fun b z => (fun (q : (Rat × Rat × Rat) × Rat) (p : Rat × Rat × Rat) => .c (.one (.dt (.int .i64) (.n 1) (cmpQ (dotQ q.1 p) q.2)))) z.1 z.2⟩
theorem Qd : Qc.OK Tryz.prog := mkF hmix 61 Tryz.func188 rfl rfl (by decide) [(69, .c HC), (248, .c N8), (249, .c Qe)] (fun _ => rfl) (fun _ => rfl) (fun _ _ => rfl) (fun (q : (Rat × Rat × Rat) × Rat) (p : Rat × Rat × Rat) b hx hp => qc (zF _ _) rfl) (fun (q : (Rat × Rat × Rat) × Rat) (p : Rat × Rat × Rat) hx hp => by
 exact ⟨.cond (.nil) (.cond (.nil) (.h 9 3 (.i (.z ((smlV q.1.1) * (smlV p.1)) 72057594037927936)) (.cond (.nil) (.cond (.nil) (.h 9 3 (.i (.z ((smlV q.1.2.1) * (smlV p.2.1)) 72057594037927936)) (.cond (.nil) (.cond (.nil) (.h 9 3 (.i (.z ((smlV q.1.2.2) * (smlV p.2.2)) 72057594037927936)) (.nil))))))))), kcast (by kernel_rfl) (And.intro (fun (h1 : (!(smlB q.1.1)) = true) => (Eq.refl (cmpQ (dotQ q.1 p) q.2))) (fun (h2 : ¬ ((!(smlB q.1.1)) = true)) => And.intro (fun (h3 : (!(smlB p.1)) = true) => (Eq.refl (cmpQ (dotQ q.1 p) q.2))) (fun (h4 : ¬ ((!(smlB p.1)) = true)) => have hm0 := (EH (ju (nb2 h2)).2 (ju (nb2 h4)).2); I (by first | exact hm2.1 | exact hm1.1 | exact hm0.1 : qy .mul .i64 (smlV q.1.1) (smlV p.1) ((smlV q.1.1) * (smlV p.1))) (I (by first | exact hm2.2 | exact hm1.2 | exact hm0.2 : Int.natAbs ((smlV q.1.1) * (smlV p.1)) ≤ 72057594037927936) (And.intro (fun (h5 : (!(smlB q.1.2.1)) = true) => (Eq.refl (cmpQ (dotQ q.1 p) q.2))) (fun (h6 : ¬ ((!(smlB q.1.2.1)) = true)) => And.intro (fun (h7 : (!(smlB p.2.1)) = true) => (Eq.refl (cmpQ (dotQ q.1 p) q.2))) (fun (h8 : ¬ ((!(smlB p.2.1)) = true)) => have hm1 := (EH (ju (nb2 h6)).2 (ju (nb2 h8)).2); I (by first | exact hm2.1 | exact hm1.1 | exact hm0.1 : qy .mul .i64 (smlV q.1.2.1) (smlV p.2.1) ((smlV q.1.2.1) * (smlV p.2.1))) (I (by first | exact hm2.2 | exact hm1.2 | exact hm0.2 : Int.natAbs ((smlV q.1.2.1) * (smlV p.2.1)) ≤ 72057594037927936) (And.intro (fun (h9 : (!(smlB q.1.2.2)) = true) => (Eq.refl (cmpQ (dotQ q.1 p) q.2))) (fun (h10 : ¬ ((!(smlB q.1.2.2)) = true)) => And.intro (fun (h11 : (!(smlB p.2.2)) = true) => (Eq.refl (cmpQ (dotQ q.1 p) q.2))) (fun (h12 : ¬ ((!(smlB p.2.2)) = true)) => have hm2 := (EH (ju (nb2 h10)).2 (ju (nb2 h12)).2); I (by first | exact hm2.1 | exact hm1.1 | exact hm0.1 : qy .mul .i64 (smlV q.1.2.2) (smlV p.2.2) ((smlV q.1.2.2) * (smlV p.2.2))) (I (by first | exact hm2.2 | exact hm1.2 | exact hm0.2 : Int.natAbs ((smlV q.1.2.2) * (smlV p.2.2)) ≤ 72057594037927936) (And.intro (fun (h13 : (!(smlB q.2)) = true) => (Eq.refl (cmpQ (dotQ q.1 p) q.2))) (fun (h14 : ¬ ((!(smlB q.2)) = true)) => (JK (nb2 h2) (nb2 h4) (nb2 h6) (nb2 h8) (nb2 h10) (nb2 h12) (nb2 h14) : sgnZ ((((0 + ((smlV q.1.1) * (smlV p.1))) + ((smlV q.1.2.1) * (smlV p.2.1))) + ((smlV q.1.2.2) * (smlV p.2.2))) - (smlV q.2)) = cmpQ (dotQ q.1 p) q.2)))))))))))))))⟩)
abbrev Qb : Ctr Tryz.prog := FI.c Qd
section
def unqN {α : Type} (d : α) (e : α → α → Bool) (l : List α) : Nat → List α
 | 0 => []
 | n + 1 => if n = 0 ∨ ¬ e (l.getD n d) (l.getD (n - 1) d) = true then unqN d e l n ++ [l.getD n d] else unqN d e l n
section
variable {α : Type} {d : α} {e : α → α → Bool} {l : List α}
theorem Hw (d : α) (e : α → α → Bool) (l : List α) : ∀ n, (unqN d e l n).length ≤ n
 | 0 => Nat.le_refl 0
 | n + 1 => by have := Hw d e l n; rw [unqN]; split <;> (try simp only [List.length_append, List.length_cons, List.length_nil]) <;> omega
theorem Dt : ∀ {n : Nat}, n ≤ l.length → ∀ x ∈ unqN d e l n, x ∈ l
 | 0, _, x, h => by cases h
 | n + 1, hn, x, h => by
  rw [unqN] at h; split at h
  ·rcases List.mem_append.1 h with h | h
   ·exact Dt (by omega) x h
   ·simp only [List.mem_singleton] at h; subst h; rw [zH (by omega)]; exact List.getElem_mem _
  ·exact Dt (by omega) x h
structure CmO (d : α) (e : α → α → Bool) (l : List α) (i : Nat) : Prop where
 h : unqN d e l i = l.take i
 h1 : 1 ≤ i
 hl : i ≤ l.length
theorem CmO.start (h : 2 ≤ l.length) : CmO d e l 1 := by
 refine ⟨?_, Nat.le_refl 1, by omega⟩
 rw [unqN, if_pos (.inl rfl), unqN, wc (d := d) (by omega)]; simp
theorem CmO.step {i : Nat} (h : CmO d e l i) (hi : i < l.length) (hp : ¬ e (l.getD i d) (l.getD (i - 1) d) = true) : CmO d e l (i + 1) :=
 ⟨by rw [unqN, if_pos (.inr hp), h.h, wc (d := d) hi], by omega, by omega⟩
theorem CmO.fin {i : Nat} (h : CmO d e l i) (hi : ¬ i < l.length) : unqN d e l l.length = l := by
 have := h.h
 have e1 : i = l.length := by have := h.hl; omega
 rw [e1, List.take_length] at this; exact this
structure CmI (d : α) (e : α → α → Bool) (l m : List α) (k i : Nat) : Prop where
 hl : m.length = l.length
 hk : k + 1 ≤ i
 hi : i ≤ l.length
 ht : m.take k = unqN d e l i
 hd : ∀ j, i ≤ j + 1 → m.getD j d = l.getD j d
theorem CmI.start {i : Nat} (h : CmO d e l i) (hi : i < l.length) (hp : e (l.getD i d) (l.getD (i - 1) d) = true) : CmI d e l l i (i + 1) :=
 ⟨rfl, Nat.le_refl _, hi, by rw [unqN, if_neg (by rintro (h2 | h2); exact absurd h.h1 (by omega); exact h2 hp), h.h], fun _ _ => rfl⟩
theorem QJ {m : List α} {k j : Nat} {v : α} (h : k ≠ j) : (m.set k v).getD j d = m.getD j d := by
 rw [List.getD_eq_getElem?_getD, List.getElem?_set_ne h, ← List.getD_eq_getElem?_getD]
theorem CmI.go {m : List α} {k i : Nat} (h : CmI d e l m k i) (hi : i < l.length) (hp : ¬ e (m.getD i d) (m.getD (i - 1) d) = true) : CmI d e l (m.set k (m.getD i d)) (k + 1) (i + 1) := by
 have hk := h.hk
 have e1 := h.hd i (by omega)
 have e2 := h.hd (i - 1) (by omega)
 rw [e1, e2] at hp
 refine ⟨by rw [List.length_set, h.hl], by omega, by omega, ?_, fun j hj => ?_⟩
 ·rw [Hm (by rw [h.hl]; omega), h.ht, unqN, if_pos (.inr hp), e1]
 ·rw [QJ (by omega)]; exact h.hd j (by omega)
theorem CmI.stay {m : List α} {k i : Nat} (h : CmI d e l m k i) (hi : i < l.length) (hp : e (m.getD i d) (m.getD (i - 1) d) = true) : CmI d e l m k (i + 1) := by
 have hk := h.hk
 rw [h.hd i (by omega), h.hd (i - 1) (by omega)] at hp
 exact ⟨h.hl, by omega, by omega, by rw [h.ht, unqN, if_neg (by rintro (h2 | h2); omega; exact h2 hp)], fun j hj => h.hd j (by omega)⟩
theorem CmI.fin {m : List α} {k i : Nat} (h : CmI d e l m k i) (hi : i = l.length) : m.take k = unqN d e l l.length ∧ k = (unqN d e l l.length).length ∧ k < l.length := by
 have hk := h.hk
 subst hi
 have ht := h.ht
 refine ⟨ht, ?_, by omega⟩
 rw [← ht, List.length_take, h.hl]; omega
end
section
variable {α : Type} {d : α} {e : α → α → Bool} {l : List α}
def unqD (d : α) (e : α → α → Bool) (l : List α) : List α := unqN d e l l.length
def unqF (d : α) (e : α → α → Bool) (l : List α) : List α := unqD d e l ++ List.replicate (l.length - (unqD d e l).length) d
theorem D0 : (unqD d e l).length ≤ l.length := Hw d e l _
theorem Nz : (unqF d e l).length = l.length := by
 have := D0 (d := d) (e := e) (l := l)
 unfold unqF; simp only [List.length_append, List.length_replicate]; omega
theorem LI : (unqF d e l).take (unqD d e l).length = unqD d e l := by unfold unqF; simp
theorem FX (h : unqD d e l = l) : l = unqF d e l := by unfold unqF; rw [h]; simp
theorem Hv : ∀ x ∈ unqD d e l, x ∈ l := Dt (Nat.le_refl _)
theorem NA {P : α → Prop} (h : ∀ x ∈ l, P x) (h0 : P d) : ∀ x ∈ unqF d e l, P x := fun x hx => by
 rcases List.mem_append.1 hx with hx | hx
 ·exact h x (Hv x hx)
 ·rw [List.eq_of_mem_replicate hx]; exact h0
theorem Er (h : l.length < 2) : unqD d e l = l := by
 match l, h with
 | [], _ => rfl
 | [x], _ => rfl
theorem CmO.all {i : Nat} (h : CmO d e l i) (hi : ¬ i < l.length) : unqD d e l = l := h.fin hi
theorem CmI.all {t : Ty} {e : t.den → t.den → Bool} {l m : List t.den} {k i n : Nat} (h : CmI t.dft e l m k i) (hi : i = l.length) (hn : n = l.length) : clrL t m k (n - k) = unqF t.dft e l ∧ k = (unqD t.dft e l).length := by
 obtain ⟨h1, h2, h3⟩ := h.fin hi
 refine ⟨?_, h2⟩
 unfold clrL unqF unqD
 have hl := h.hl
 rw [h1, List.drop_of_length_le (by omega), List.append_nil, hn, ← h2]
theorem Mc {t : Ty} {l : List t.den} {lo n : Nat} (h : lo + n ≤ l.length) : (clrL t l lo n).length = l.length := by
 unfold clrL; simp only [List.length_append, List.length_take, List.length_replicate, List.length_drop]; omega
end
section
variable {α : Type} (d : α) (c : α → α → Int)
def posR (x : α) (p : List α) : Nat → Nat
 | 0 => 0
 | j + 1 => if c x (p.getD j d) < 0 then posR x p j else j + 1
theorem ID (x : α) (p : List α) : ∀ j, posR d c x p j ≤ j
 | 0 => Nat.le_refl 0
 | j + 1 => by
  unfold posR; split
  ·exact Nat.le_succ_of_le (ID x p j)
  ·exact Nat.le_refl _
def insR (x : α) (p : List α) : List α := p.take (posR d c x p p.length) ++ x :: p.drop (posR d c x p p.length)
theorem MB (x : α) (p : List α) : (insR d c x p).length = p.length + 1 := by
 have := ID d c x p p.length
 unfold insR; simp only [List.length_append, List.length_take, List.length_cons, List.length_drop]; omega
def jG (l : List α) : Nat → List α
 | 0 => []
 | i + 1 => insR d c (l.getD i d) (jG l i)
theorem v9 (l : List α) : ∀ i, (jG d c l i).length = i
 | 0 => rfl
 | i + 1 => by rw [jG, MB, v9 l i]
def jM (l : List α) : List α := jG d c l l.length
theorem FQ (l : List α) : (jM d c l).length = l.length := v9 d c l _
theorem MC {x y : α} {p : List α} : y ∈ insR d c x p ↔ y = x ∨ y ∈ p := by
 unfold insR
 rw [List.mem_append, List.mem_cons]
 constructor
 ·rintro (h | h | h)
  ·exact .inr (List.mem_of_mem_take h)
  ·exact .inl h
  ·exact .inr (List.mem_of_mem_drop h)
 ·rintro (h | h)
  ·exact .inr (.inl h)
  ·rw [← List.take_append_drop (posR d c x p p.length) p] at h
   rcases List.mem_append.1 h with h | h
   ·exact .inl h
   ·exact .inr (.inr h)
theorem FP {y : α} {l : List α} : ∀ {i}, i ≤ l.length → (y ∈ jG d c l i ↔ y ∈ l.take i)
 | 0, _ => by simp [jG]
 | i + 1, h => by
  rw [jG, MC, FP (by omega), wc (d := d) (by omega), List.mem_append, List.mem_singleton, Or.comm]
theorem FR {y : α} {l : List α} : y ∈ jM d c l ↔ y ∈ l := by rw [jM, FP d c (Nat.le_refl _), List.take_length]
structure SoO (l m : List α) (i : Nat) : Prop where
 h : m = jG d c l i ++ l.drop i
 hi : i ≤ l.length
structure SoI (l m : List α) (i j : Nat) : Prop where
 h : m = ((jG d c l i).take j ++ l.getD i d :: (jG d c l i).drop j) ++ l.drop (i + 1)
 hi : i < l.length
 hj : j ≤ i
 hp : posR d c (l.getD i d) (jG d c l i) j = posR d c (l.getD i d) (jG d c l i) i
variable {d c} {l m : List α} {i j : Nat}
theorem SoO.start (h : 1 ≤ l.length) : SoO d c l l 1 := by
 refine ⟨?_, h⟩
 match l, h with
 | x :: r, _ => rfl
theorem SoO.inner (h : SoO d c l m i) (hi : i < l.length) : SoI d c l m i i := by
 have hl := v9 d c l i
 refine ⟨?_, hi, Nat.le_refl _, rfl⟩
 have e1 : (jG d c l i).take i = jG d c l i := List.take_of_length_le (by omega)
 have e2 : (jG d c l i).drop i = [] := List.drop_of_length_le (by omega)
 rw [h.h, e1, e2, List.append_assoc, List.drop_eq_getElem_cons hi, zH hi]; rfl
theorem SoI.len (h : SoI d c l m i j) : m.length = l.length := by
 have hl := v9 d c l i; have h1 := h.hi; have h2 := h.hj
 rw [h.h]; simp only [List.length_append, List.length_take, List.length_cons, List.length_drop]; omega
theorem SoO.len (h : SoO d c l m i) : m.length = l.length := by
 have hl := v9 d c l i; have h1 := h.hi
 rw [h.h]; simp only [List.length_append, List.length_drop]; omega
theorem SoI.at_ (h : SoI d c l m i j) : m.getD j d = l.getD i d := by
 have hl := v9 d c l i; have h2 := h.hj
 rw [h.h, List.getD_eq_getElem?_getD, List.getElem?_append_left (by simp only [List.length_append, List.length_take, List.length_cons]; omega), List.getElem?_append_right (by simp only [List.length_take]; omega)]
 simp only [List.length_take, show j - min j (jG d c l i).length = 0 by omega]; rfl
theorem SoI.pred (h : SoI d c l m i j) (h0 : 0 < j) : m.getD (j - 1) d = (jG d c l i).getD (j - 1) d := by
 have hl := v9 d c l i; have h2 := h.hj
 rw [h.h, List.getD_eq_getElem?_getD, List.getElem?_append_left (by simp only [List.length_append, List.length_take, List.length_cons]; omega), List.getElem?_append_left (by simp only [List.length_take]; omega), List.getElem?_take_of_lt (by omega), ← List.getD_eq_getElem?_getD]
theorem SoI.step (h : SoI d c l m i j) (h0 : 0 < j) (hc : c (m.getD j d) (m.getD (j - 1) d) < 0) : SoI d c l ((m.set j (m.getD (j - 1) d)).set (j - 1) (m.getD j d)) i (j - 1) := by
 have hl := v9 d c l i; have h2 := h.hj
 rw [h.at_, h.pred h0] at hc ⊢
 obtain ⟨k, rfl⟩ : ∃ k, j = k + 1 := ⟨j - 1, by omega⟩
 rw [show k + 1 - 1 = k by omega] at hc ⊢
 refine ⟨?_, h.hi, by omega, ?_⟩
 ·rw [h.h]
  generalize hP : jG d c l i = P at *
  have hk : k < P.length := by omega
  have e1 : P.take (k + 1) = P.take k ++ [P.getD k d] := wc hk
  have e2 : P.drop k = P.getD k d :: P.drop (k + 1) := by rw [zH hk]; exact List.drop_eq_getElem_cons hk
  have e3 : (P.take k).length = k := by rw [List.length_take]; omega
  rw [e1, e2]
  generalize P.take k = A at *; generalize P.getD k d = y at *; generalize l.getD i d = x at *; generalize P.drop (k + 1) = B at *
  subst e3
  have s1 : ∀ (u v w : α) (R : List α), (A ++ u :: v :: R).set (A.length + 1) w = A ++ u :: w :: R := by
   intro u v w R; rw [List.set_append_right _ _ (by omega)]; simp
  have s2 : ∀ (u w : α) (R : List α), (A ++ u :: R).set A.length w = A ++ w :: R := by
   intro u w R; rw [List.set_append_right _ _ (by omega)]; simp
  simp only [List.append_assoc, List.cons_append, List.nil_append, s1, s2]
 ·have e := h.hp
  rw [← e, posR, if_pos hc]
theorem SoI.stop (h : SoI d c l m i j) (hc : ¬ (0 < j) ∨ ¬ c (m.getD j d) (m.getD (j - 1) d) < 0) : SoO d c l m (i + 1) := by
 have hl := v9 d c l i; have h2 := h.hj
 have e : posR d c (l.getD i d) (jG d c l i) i = j := by
  rw [← h.hp]
  rcases hc with hc | hc
  ·rw [show j = 0 by omega]; rfl
  ·rcases Nat.eq_zero_or_pos j with h0 | h0
   ·rw [h0]; rfl
   ·rw [h.at_, h.pred h0] at hc
    obtain ⟨k, rfl⟩ : ∃ k, j = k + 1 := ⟨j - 1, by omega⟩
    rw [show k + 1 - 1 = k by omega] at hc
    rw [posR, if_neg hc]
 refine ⟨?_, h.hi⟩
 rw [jG, insR, hl, e]; exact h.h
theorem SoO.fin (h : SoO d c l m i) (hi : ¬ i < l.length) : m = jM d c l := by
 have := h.hi
 have e : i = l.length := by omega
 rw [h.h, e, List.drop_length, List.append_nil]; rfl
theorem Nv (h : ¬ 1 ≤ l.length) : l = jM d c l := by
 match l, h with
 | [], _ => rfl
 | _ :: _, h => exact absurd (Nat.succ_pos _) h
end
end
def cpV (p q : V3) : Int := if cmpQ p.1 q.1 ≠ 0 then cmpQ p.1 q.1 else if cmpQ p.2.1 q.2.1 ≠ 0 then cmpQ p.2.1 q.2.1 else cmpQ p.2.2 q.2.2
theorem UP (p q : V3) : (cpV p q).natAbs ≤ 1 := by unfold cpV; (repeat' split) <;> exact zF _ _
theorem Ay {x y : Rat} : cmpQ x y = 0 ↔ x = y := by unfold cmpQ; (repeat' split) <;> grind
theorem UK {p q : V3} : cpV p q = 0 ↔ p = q := by
 rw [vx, ← Ay, ← Ay, ← Ay]; unfold cpV
 by_cases h1 : cmpQ p.1 q.1 = 0
 ·by_cases h2 : cmpQ p.2.1 q.2.1 = 0
  ·simp [h1, h2]
  ·simp [h1, h2]
 ·simp [h1]
theorem UL {p q : V3} (h : cmpQ p.1 q.1 ≠ 0) : cmpQ p.1 q.1 = cpV p q := by unfold cpV; rw [if_pos h]
theorem UM {p q : V3} (h : ¬ cmpQ p.1 q.1 ≠ 0) (h2 : cmpQ p.2.1 q.2.1 ≠ 0) : cmpQ p.2.1 q.2.1 = cpV p q := by unfold cpV; rw [if_neg h, if_pos h2]
theorem UN {p q : V3} (h : ¬ cmpQ p.1 q.1 ≠ 0) (h2 : ¬ cmpQ p.2.1 q.2.1 ≠ 0) (h3 : cmpQ p.2.2 q.2.2 ≠ 0) : cmpQ p.2.2 q.2.2 = cpV p q := by unfold cpV; rw [if_neg h, if_neg h2]
theorem UO {p q : V3} (h : ¬ cmpQ p.1 q.1 ≠ 0) (h2 : ¬ cmpQ p.2.1 q.2.1 ≠ 0) (h3 : ¬ cmpQ p.2.2 q.2.2 ≠ 0) : 0 = cpV p q := by unfold cpV; rw [if_neg h, if_neg h2]; exact (Decidable.of_not_not h3).symm
abbrev eqV : V3 → V3 → Bool := fun p q => decide (p = q)
def insQ (a b p : V3) : Prop := qh (subV b a) (subV p a) = (0, 0, 0) ∧ dotQ (subV a p) (subV b p) < 0
instance (a b p : V3) : Decidable (insQ a b p) := by unfold insQ; infer_instance
def cm (p : V3) (k : Nat) : Rat := [p.1, p.2.1, p.2.2].getD k 0
def Btw (a b p : V3) (k : Nat) : Prop := ∀ j, j < k → ¬ cmpQ (cm a j) (cm p j) * cmpQ (cm p j) (cm b j) < 0
theorem OF {x y z : Rat} : cmpQ x y * cmpQ y z < 0 ↔ 0 < (x - y) * (z - y) := by
 unfold cmpQ
 have pos : ∀ {u v : Rat}, 0 < u → 0 < v → 0 < u * v := fun h k => Rat.mul_pos h k
 by_cases h1 : x < y
 ·by_cases h2 : y < z
  ·rw [if_pos h1, if_pos h2]
   have := pos (show 0 < y - x by grind) (show 0 < z - y by grind)
   grind
  ·by_cases h3 : y = z
   ·subst h3; rw [if_pos h1, if_neg h2, if_pos rfl]; grind
   ·rw [if_pos h1, if_neg h2, if_neg h3]
    have := pos (show 0 < y - x by grind) (show 0 < y - z by grind)
    grind
 ·by_cases h0 : x = y
  ·subst h0; rw [if_neg h1, if_pos rfl]; grind
  ·by_cases h2 : y < z
   ·rw [if_neg h1, if_neg h0, if_pos h2]
    have := pos (show 0 < x - y by grind) (show 0 < z - y by grind)
    grind
   ·by_cases h3 : y = z
    ·subst h3; rw [if_neg h1, if_neg h0, if_neg h2, if_pos rfl]; grind
    ·rw [if_neg h1, if_neg h0, if_neg h2, if_neg h3]
     have := pos (show 0 < x - y by grind) (show 0 < y - z by grind)
     grind
theorem AL {a b p : V3} : insQ a b p ↔ Btw a b p 3 ∧ a ≠ p ∧ b ≠ p ∧ qh (subV b a) (subV p a) = (0, 0, 0) := by
 obtain ⟨a1, a2, a3⟩ := a; obtain ⟨b1, b2, b3⟩ := b; obtain ⟨p1, p2, p3⟩ := p
 have hB : Btw (a1, a2, a3) (b1, b2, b3) (p1, p2, p3) 3 ↔ (a1 - p1) * (b1 - p1) ≤ 0 ∧ (a2 - p2) * (b2 - p2) ≤ 0 ∧ (a3 - p3) * (b3 - p3) ≤ 0 := by
  unfold Btw
  simp only [OF]
  constructor
  ·intro h
   have h0 : ¬ 0 < (a1 - p1) * (b1 - p1) := h 0 (by omega)
   have h1 : ¬ 0 < (a2 - p2) * (b2 - p2) := h 1 (by omega)
   have h2 : ¬ 0 < (a3 - p3) * (b3 - p3) := h 2 (by omega)
   grind
  ·rintro ⟨h0, h1, h2⟩ j hj
   match j, hj with
   | 0, _ => show ¬ 0 < (a1 - p1) * (b1 - p1); grind
   | 1, _ => show ¬ 0 < (a2 - p2) * (b2 - p2); grind
   | 2, _ => show ¬ 0 < (a3 - p3) * (b3 - p3); grind
 unfold insQ
 rw [hB]
 simp only [qh, subV, dotQ, Prod.mk.injEq, ne_eq, not_and]
 have c1 : (b2 - a2) * (p3 - a3) - (b3 - a3) * (p2 - a2) = 0 ↔ (a2 - p2) * (b3 - p3) = (a3 - p3) * (b2 - p2) := by grind
 have c2 : (b3 - a3) * (p1 - a1) - (b1 - a1) * (p3 - a3) = 0 ↔ (a3 - p3) * (b1 - p1) = (a1 - p1) * (b3 - p3) := by grind
 have c3 : (b1 - a1) * (p2 - a2) - (b2 - a2) * (p1 - a1) = 0 ↔ (a1 - p1) * (b2 - p2) = (a2 - p2) * (b1 - p1) := by grind
 rw [c1, c2, c3]
 have z1 : a1 = p1 ↔ a1 - p1 = 0 := by grind
 have z2 : a2 = p2 ↔ a2 - p2 = 0 := by grind
 have z3 : a3 = p3 ↔ a3 - p3 = 0 := by grind
 have y1 : b1 = p1 ↔ b1 - p1 = 0 := by grind
 have y2 : b2 = p2 ↔ b2 - p2 = 0 := by grind
 have y3 : b3 = p3 ↔ b3 - p3 = 0 := by grind
 rw [z1, z2, z3, y1, y2, y3]
 generalize a1 - p1 = u1 at *; generalize a2 - p2 = u2 at *; generalize a3 - p3 = u3 at *
 generalize b1 - p1 = v1 at *; generalize b2 - p2 = v2 at *; generalize b3 - p3 = v3 at *
 constructor
 ·rintro ⟨⟨e1, e2, e3⟩, hd⟩
  have key : ∀ x y n : Rat, x * y * n = (x * x) * (v1 * v1 + v2 * v2 + v3 * v3) → n < 0 → x * y ≤ 0 := by
   intro x y n h hn
   rcases Rat.le_total (a := x * y) (b := 0) with q | q
   ·exact q
   ·have h1 := Rat.mul_nonneg q (show 0 ≤ -n by grind)
    have h2 := Rat.mul_nonneg (jJ x) (show 0 ≤ v1 * v1 + v2 * v2 + v3 * v3 by have := jJ v1; have := jJ v2; have := jJ v3; grind)
    have h3 : x * y * n = 0 := by grind
    rcases Rat.mul_eq_zero.1 h3 with h4 | h4 <;> grind
  refine ⟨⟨key u1 v1 _ ?_ hd, key u2 v2 _ ?_ hd, key u3 v3 _ ?_ hd⟩, fun h1 h2 h3 => by subst h1 h2 h3; grind, fun h1 h2 h3 => by subst h1 h2 h3; grind, e1, e2, e3⟩ <;> grind
 ·rintro ⟨⟨h1, h2, h3⟩, n1, n2, e1, e2, e3⟩
  refine ⟨⟨e1, e2, e3⟩, ?_⟩
  have h4 : u1 * v1 + u2 * v2 + u3 * v3 ≤ 0 := by grind
  by_cases h5 : u1 * v1 + u2 * v2 + u3 * v3 = 0
  ·exfalso
   have k1 : u1 * v1 = 0 := by grind
   have k2 : u2 * v2 = 0 := by grind
   have k3 : u3 * v3 = 0 := by grind
   rcases Rat.mul_eq_zero.1 k1 with q1 | q1 <;> rcases Rat.mul_eq_zero.1 k2 with q2 | q2 <;> rcases Rat.mul_eq_zero.1 k3 with q3 | q3 <;> subst q1 q2 q3 <;>
    grind
  ·grind
section
abbrev z3 : V3 := (0, 0, 0)
def valP (q : V3 × Rat) (p : V3) : Rat := dotQ q.1 p - q.2
theorem LL {q : V3 × Rat} {p : V3} {k m : Nat} (h : Bnd tPl (.p (bV3 k) (.n k)) q) (hp : Bnd tV3 (bV3 m) p) : Bnd .rat (.n (4 * k + 3 * m + 3)) (valP q p) :=
 j4 (wm (wg h.1 hp) h.2) (by omega)
theorem pl_m {b : Bd} {q : V3 × Rat} (h : Bnd tPl b q) : Bnd tPl (.p (bV3 b.mx) (.n b.mx)) q :=
 ⟨vd h.pr.1 b.l_mx, wP h.pr.2 (Nat.le_trans (Bd.nb_mx _) b.r_mx)⟩
def crsV (q : V3 × Rat) (a b : V3) : V3 := onS a b (valP q a / (valP q a - valP q b))
theorem O2 {q : V3 × Rat} {a b : V3} {k m : Nat} (h : Bnd tPl (.p (bV3 k) (.n k)) q) (ha : Bnd tV3 (bV3 m) a) (hb : Bnd tV3 (bV3 m) b) : Bnd tV3 (bV3 (12 * (k + m) + 12)) (crsV q a b) := by
 have va := LL h ha; have vb := LL h hb
 exact vX (add_m ha (F8 (Jz va (wm va vb)) (sub_m hb ha))) (by omega)
theorem UQ {q : V3 × Rat} {a b : V3} {c d e : Bd} (h : Bnd tPl c q) (ha : Bnd tV3 d a) (hb : Bnd tV3 e b) : Bnd tV3 (bV3 (12 * (c.mx + max d.mx e.mx) + 12)) (crsV q a b) :=
 O2 (pl_m h) (vd ha (by omega)) (vd hb (by omega))
def oppP (q : V3 × Rat) : V3 × Rat := (qb ((-1 : Int) : Rat) q.1, -q.2)
theorem CH {x : Rat} {m : Nat} (h : Bnd .rat (.n m) x) : Bnd .rat (.n m) (-x) := ⟨by rw [Rat.neg_num, Int.natAbs_neg]; exact h.1, by rw [Rat.neg_den]; exact h.2⟩
theorem SO {x : Rat} (h : ¬ x.num < 0) : decide (0 < (limbs x.num.natAbs).length) = decide ((-x).num < 0) := by
 rw [Rat.neg_num]
 apply decide_eq_decide.2
 have := nl0 (x := x.num.natAbs)
 omega
theorem SP {x : Rat} (h : ¬ ¬ x.num < 0) : false = decide ((-x).num < 0) := by
 rw [Rat.neg_num]; symm; apply decide_eq_false; omega
theorem Oa {q : V3 × Rat} {b : Bd} (h : Bnd tPl b q) : Bnd tPl (.p (bV3 (b.mx + 1)) (.n (b.mx + 1))) (oppP q) := by
 have h2 := pl_m h
 have h1 : Bnd .rat (.n 1) ((-1 : Int) : Rat) := ⟨by show (1 : Nat) < 2 ^ 1; omega, by show (1 : Nat) ≤ 2 ^ 1; omega⟩
 exact ⟨vX (F8 h1 h2.1) (by omega), j4 (CH h2.2) (by omega)⟩
def wT (q : V3 × Rat) (l : List V3) (i : Nat) : List V3 :=
 (if cmpQ (dotQ q.1 (l.getD i z3)) q.2 ≤ 0 then [l.getD i z3] else []) ++
  (if cmpQ (dotQ q.1 (l.getD i z3)) q.2 * cmpQ (dotQ q.1 (l.getD ((i + 1) % l.length) z3)) q.2 < 0 then [crsV q (l.getD i z3) (l.getD ((i + 1) % l.length) z3)] else [])
def jn (q : V3 × Rat) (l : List V3) : Nat → List V3
 | 0 => []
 | i + 1 => jn q l i ++ wT q l i
def j5 (q : V3 × Rat) (l : List V3) : List V3 := jn q l l.length
theorem Kc (q : V3 × Rat) (l : List V3) (i : Nat) : (wT q l i).length ≤ 2 := by
 unfold wT; (repeat' split) <;> simp
theorem wU (q : V3 × Rat) (l : List V3) : ∀ i, (jn q l i).length ≤ 2 * i
 | 0 => Nat.le_refl 0
 | i + 1 => by have h1 := wU q l i; have h2 := Kc q l i; rw [jn, List.length_append]; omega
section
variable {q : V3 × Rat} {l o : List V3} {i : Nat}
theorem Ou (h : o = jn q l i) (h1 : ¬ cmpQ (dotQ q.1 (l.getD i z3)) q.2 ≤ 0) (h2 : ¬ cmpQ (dotQ q.1 (l.getD i z3)) q.2 * cmpQ (dotQ q.1 (l.getD ((i + 1) % l.length) z3)) q.2 < 0) : o = jn q l (i + 1) := by
 rw [jn, wT, if_neg h1, if_neg h2, h]; simp
theorem Ow (h : o = jn q l i) (h1 : cmpQ (dotQ q.1 (l.getD i z3)) q.2 ≤ 0) (h2 : ¬ cmpQ (dotQ q.1 (l.getD i z3)) q.2 * cmpQ (dotQ q.1 (l.getD ((i + 1) % l.length) z3)) q.2 < 0) : o ++ [l.getD i z3] = jn q l (i + 1) := by
 rw [jn, wT, if_pos h1, if_neg h2, h]; simp
theorem Ov (h : o = jn q l i) (h1 : ¬ cmpQ (dotQ q.1 (l.getD i z3)) q.2 ≤ 0) (h2 : cmpQ (dotQ q.1 (l.getD i z3)) q.2 * cmpQ (dotQ q.1 (l.getD ((i + 1) % l.length) z3)) q.2 < 0) : o ++ [crsV q (l.getD i z3) (l.getD ((i + 1) % l.length) z3)] = jn q l (i + 1) := by
 rw [jn, wT, if_neg h1, if_pos h2, h]; simp
theorem Ox (h : o = jn q l i) (h1 : cmpQ (dotQ q.1 (l.getD i z3)) q.2 ≤ 0) (h2 : cmpQ (dotQ q.1 (l.getD i z3)) q.2 * cmpQ (dotQ q.1 (l.getD ((i + 1) % l.length) z3)) q.2 < 0) : (o ++ [l.getD i z3]) ++ [crsV q (l.getD i z3) (l.getD ((i + 1) % l.length) z3)] = jn q l (i + 1) := by
 rw [jn, wT, if_pos h1, if_pos h2, h]; simp
end
theorem DC (m : Nat) : Bnd .rat (.n m) 0 := ⟨Nat.pow_pos (by omega), Nat.pow_pos (by omega)⟩
theorem z3_b (m : Nat) : Bnd tV3 (bV3 m) z3 := ⟨DC _, DC _, DC _⟩
theorem GL {l : List V3} {m : Nat} (h : ∀ x ∈ l, Bnd tV3 (bV3 m) x) (i : Nat) : Bnd tV3 (bV3 m) (l.getD i z3) := by
 by_cases hi : i < l.length
 ·rw [zH hi]; exact h _ (List.getElem_mem hi)
 ·rw [List.getD_eq_getElem?_getD, List.getElem?_eq_none (by omega)]; exact z3_b m
theorem EK {q : V3 × Rat} {l : List V3} {k m : Nat} (hq : Bnd tPl (.p (bV3 k) (.n k)) q) (h : ∀ x ∈ l, Bnd tV3 (bV3 m) x) : ∀ i, ∀ x ∈ jn q l i, Bnd tV3 (bV3 (12 * (k + m) + 12)) x
 | 0, x, hx => by cases hx
 | i + 1, x, hx => by
  rcases List.mem_append.1 hx with hx | hx
  ·exact EK hq h i x hx
  ·unfold wT at hx
   rcases List.mem_append.1 hx with hx | hx
   ·split at hx
    ·rw [List.mem_singleton.1 hx]; exact vX (GL h i) (by omega)
    ·cases hx
   ·split at hx
    ·rw [List.mem_singleton.1 hx]; exact O2 hq (GL h i) (GL h _)
    ·cases hx
theorem Bnd.l3 {b : Bd} {l : List V3} (h : Bnd (.sl tV3) b l) : l.length ≤ b.len ∧ ∀ x ∈ l, Bnd tV3 (bV3 b.mx) x := by
 have h2 := h.sl
 have m : b.e.mx ≤ b.mx := by cases b <;> simp [Bd.e, Bd.mx]
 exact ⟨h2.1, fun x hx => vd (h2.2 x hx) m⟩
theorem RT {q : V3 × Rat} {l : List V3} {b c : Bd} (hl : Bnd (.sl tV3) b l) (hq : Bnd tPl c q) : Bnd (.sl tV3) (.s (2 * b.len) (bV3 (12 * (c.mx + b.mx) + 12))) (j5 q l) := by
 have h := hl.l3
 have := wU q l l.length
 exact ⟨by show (jn q l l.length).length ≤ _; omega, EK (pl_m hq) h.2 _⟩
def mid1 (l : List V3) (p : V3) (i : Nat) : Nat → Bool
 | 0 => false
 | m + 1 => mid1 l p i m || decide (insQ (l.getD i z3) ((l.drop (i + 1)).getD m z3) p)
def mid2 (l : List V3) (p : V3) : Nat → Bool
 | 0 => false
 | i + 1 => mid2 l p i || mid1 l p i (l.drop (i + 1)).length
def jK (l : List V3) : Nat → List V3
 | 0 => []
 | n + 1 => if mid2 l (l.getD n z3) l.length then jK l n else jK l n ++ [l.getD n z3]
def qm (l : List V3) : List V3 := unqD z3 eqV (jM z3 cpV l)
def wV (l : List V3) : List V3 := jK (qm l) (qm l).length
theorem BU (l : List V3) : ∀ n, (jK l n).length ≤ n
 | 0 => Nat.le_refl 0
 | n + 1 => by
  have := BU l n
  unfold jK; split
  ·omega
  ·rw [List.length_append]; simp only [List.length_cons, List.length_nil]; omega
theorem BV {l : List V3} {x : V3} : ∀ {n}, n ≤ l.length → x ∈ jK l n → x ∈ l
 | 0, _, h => by cases h
 | n + 1, hn, h => by
  unfold jK at h
  split at h
  ·exact BV (by omega) h
  ·rcases List.mem_append.1 h with h | h
   ·exact BV (by omega) h
   ·rw [List.mem_singleton.1 h, zH (by omega)]; exact List.getElem_mem _
theorem FT {l : List V3} : ∀ x ∈ qm l, x ∈ l := fun x hx => (FR z3 cpV).1 (Hv x hx)
theorem Ck (l : List V3) : (qm l).length ≤ l.length := by have := D0 (d := z3) (e := eqV) (l := jM z3 cpV l); rw [FQ] at this; exact this
theorem Ft {l : List V3} {x : V3} (h : x ∈ wV l) : x ∈ l := FT x (BV (Nat.le_refl _) h)
theorem Fs (l : List V3) : (wV l).length ≤ l.length := Nat.le_trans (BU _ _) (Ck l)
theorem TS {l o : List V3} {b : Bd} (h : Bnd (.sl tV3) b l) (hl : o.length ≤ l.length) (hm : ∀ x ∈ o, x ∈ l) : Bnd (.sl tV3) (.s b.len b.e) o :=
 ⟨Nat.le_trans hl h.sl.1, fun x hx => h.sl.2 x (hm x hx)⟩
def zP (a b : T3) : List V3 :=
 j5 (upP (qf b) b.2.2 b.1) (j5 (upP (qf b) b.2.1 b.2.2) (j5 (upP (qf b) b.1 b.2.1) (j5 (oppP (qf b)) (j5 (qf b) [a.1, a.2.1, a.2.2]))))
def j9 (a b : T3) : List V3 := if qL a = z3 ∨ qL b = z3 then [] else wV (zP a b)
end
abbrev Qt : FI := ⟨196, [.rat], [(.n 1099511627776)], fun _ => [], fun b z => (fun (x : Rat) => .c (.agg [.dt .rat (.n (b0 b).nb) (-x)])) z⟩
theorem Qu : Qt.OK Tryz.prog := mkF hmix 16 Tryz.func196 rfl rfl (by decide) [(134, .c Cb)] (fun _ => rfl) (fun _ => rfl) (fun _ _ => rfl) (fun (x : Rat) b hx hp => jq (CH (wP (Bnds.h1 hx) (Nat.le_refl _)))) (fun (x : Rat) hx hp => by
 have hx0 : Bnd .rat (.n 1099511627776) x := hx
 have hx0 : Bnd .rat (.n 1099511627776) x := hx
 exact ⟨.cond (.h 3 0 (.rat (-x) 1099511627776) (.nil)) (.h 3 0 (.rat (-x) 1099511627776) (.nil)), kcast (by kernel_rfl) (And.intro (fun (h1 : ¬ (x.num < 0)) => I (SO (by assumption) : decide (0 < (limbs x.num.natAbs).length) = decide ((-x).num < 0)) (I (by rw [Rat.neg_num, Int.natAbs_neg] : x.num.natAbs = (-x).num.natAbs) (I (by rw [Rat.neg_den] : denL x.den = denL (-x).den) (I ((CH hx0).1 : lt2 (-x).num.natAbs 1099511627776) (I ((CH hx0).2 : le2 (-x).den 1099511627776) ((Eq.refl (-x)))))))) (fun (h2 : ¬ (¬ (x.num < 0))) => I (SP (by assumption) : false = decide ((-x).num < 0)) (I (by rw [Rat.neg_num, Int.natAbs_neg] : x.num.natAbs = (-x).num.natAbs) (I (by rw [Rat.neg_den] : denL x.den = denL (-x).den) (I ((CH hx0).1 : lt2 (-x).num.natAbs 1099511627776) (I ((CH hx0).2 : le2 (-x).den 1099511627776) ((Eq.refl (-x)))))))))⟩)
abbrev Qs : Ctr Tryz.prog := FI.c Qu
abbrev Td : FI := ⟨124, [(.pr (.pr .rat (.pr .rat .rat)) .rat)], [(.p (.p (.n 16777216) (.p (.n 16777216) (.n 16777216))) (.n 16777216))], fun _ => [], fun b z => (fun (q : (Rat × Rat × Rat) × Rat) => .c (.agg [.dt tPl (.p (bV3 ((b0 b).mx + 1)) (.n ((b0 b).mx + 1))) (oppP q)])) z⟩
theorem Te : Td.OK Tryz.prog := mkF hmix 11 Tryz.func124 rfl rfl (by decide) [(130, .c Co), (132, .c Lr), (196, .c Qs)] (fun _ => rfl) (fun _ => rfl) (fun _ _ => rfl) (fun (q : (Rat × Rat × Rat) × Rat) b hx hp => jq (Oa (Bnds.h1 hx))) (fun (q : (Rat × Rat × Rat) × Rat) hx hp => by
 exact ⟨.nil, kcast (by kernel_rfl) ((rfl : (qb (((-1) : Int) : Rat) q.1, -q.2) = oppP q))⟩)
abbrev Tc : Ctr Tryz.prog := FI.c Te
abbrev MR : FI := ⟨195, [(.pr (.pr .rat (.pr .rat .rat)) .rat), (.pr .rat (.pr .rat .rat)), (.pr .rat (.pr .rat .rat))], [(.p (.p (.n 16777216) (.p (.n 16777216) (.n 16777216))) (.n 16777216)), (.p (.n 67108864) (.p (.n 67108864) (.n 67108864))), (.p (.n 67108864) (.p (.n 67108864) (.n 67108864)))], fun _ => [], fun b z => (fun (q : (Rat × Rat × Rat) × Rat) (a : Rat × Rat × Rat) (b_ : Rat × Rat × Rat) => .c (.agg [.dt tV3 (bV3 (12 * ((b0 b).mx + max (b1 b).mx (b2 b).mx) + 12)) (crsV q a b_)])) z.1 z.2.1 z.2.2⟩
theorem MS : MR.OK Tryz.prog := mkF hmix 40 Tryz.func195 rfl rfl (by decide) [(71, .c Ek), (72, .c ww), (73, .c Hi), (128, .c wy), (129, .c IS), (130, .c Co)] (fun _ => rfl) (fun _ => rfl) (fun _ _ => rfl) (fun (q : (Rat × Rat × Rat) × Rat) (a : Rat × Rat × Rat) (b_ : Rat × Rat × Rat) b hx hp => jq (UQ (Bnds.h3 hx).1 (Bnds.h3 hx).2.1 (Bnds.h3 hx).2.2)) (fun (q : (Rat × Rat × Rat) × Rat) (a : Rat × Rat × Rat) (b_ : Rat × Rat × Rat) hx hp => by
 exact ⟨.nil, kcast (by kernel_rfl) ((rfl : addV a (qb (((dotQ q.1 a) - q.2) / (((dotQ q.1 a) - q.2) - ((dotQ q.1 b_) - q.2))) (subV b_ a)) = crsV q a b_))⟩)
abbrev MQ : Ctr Tryz.prog := FI.c MS
abbrev TL : FI := ⟨199, [(.pr .rat (.pr .rat .rat)), (.pr .rat (.pr .rat .rat))], [(.p (.n 2147483648) (.p (.n 2147483648) (.n 2147483648))), (.p (.n 2147483648) (.p (.n 2147483648) (.n 2147483648)))], fun _ => [], fun b z => (fun (p : Rat × Rat × Rat) (q : Rat × Rat × Rat) => .c (.one (.dt (.int .i64) (.n 1) (cpV p q)))) z.1 z.2⟩
theorem TM : TL.OK Tryz.prog := mkF hmix 21 Tryz.func199 rfl rfl (by decide) [(133, .c Ca)] (fun _ => rfl) (fun _ => rfl) (fun _ _ => rfl) (fun (p : Rat × Rat × Rat) (q : Rat × Rat × Rat) b hx hp => qc (UP p q) rfl) (fun (p : Rat × Rat × Rat) (q : Rat × Rat × Rat) hx hp => by
 exact ⟨.nil, kcast (by kernel_rfl) (And.intro (fun (h1 : cmpQ p.1 q.1 ≠ 0) => (UL h1 : cmpQ p.1 q.1 = cpV p q)) (fun (h2 : ¬ (cmpQ p.1 q.1 ≠ 0)) => And.intro (fun (h3 : cmpQ p.2.1 q.2.1 ≠ 0) => (UM h2 h3 : cmpQ p.2.1 q.2.1 = cpV p q)) (fun (h4 : ¬ (cmpQ p.2.1 q.2.1 ≠ 0)) => And.intro (fun (h5 : cmpQ p.2.2 q.2.2 ≠ 0) => (UN h2 h4 h5 : cmpQ p.2.2 q.2.2 = cpV p q)) (fun (h6 : ¬ (cmpQ p.2.2 q.2.2 ≠ 0)) => (UO h2 h4 h6 : 0 = cpV p q)))))⟩)
abbrev Lz : Ctr Tryz.prog := FI.c TM
abbrev QH : FI := ⟨201, [(.pr .rat (.pr .rat .rat)), (.pr .rat (.pr .rat .rat))], [(.p (.n 2147483648) (.p (.n 2147483648) (.n 2147483648))), (.p (.n 2147483648) (.p (.n 2147483648) (.n 2147483648)))], fun _ => [], fun b z => (fun (p : Rat × Rat × Rat) (q : Rat × Rat × Rat) => .c (.one (.dt .bool .u (decide (p = q))))) z.1 z.2⟩
theorem QI : QH.OK Tryz.prog := mkF hmix 9 Tryz.func201 rfl rfl (by decide) [(199, .c Lz)] (fun _ => rfl) (fun _ => rfl) (fun _ _ => rfl) (fun (p : Rat × Rat × Rat) (q : Rat × Rat × Rat) b hx hp => qc trivial rfl) (fun (p : Rat × Rat × Rat) (q : Rat × Rat × Rat) hx hp => by
 exact ⟨.nil, kcast (by kernel_rfl) ((decide_eq_decide.2 UK : decide (cpV p q = 0) = decide (p = q)))⟩)
abbrev QG : Ctr Tryz.prog := FI.c QI
section
section
variable {a b p : V3} {k : Nat}
theorem Btw.start : Btw a b p 0 := fun j hj => by omega
theorem Btw.step (h : Btw a b p k) (hk : ¬ cmpQ (cm a k) (cm p k) * cmpQ (cm p k) (cm b k) < 0) : Btw a b p (k + 1) := fun j hj => by
 by_cases e : j = k
 ·subst e; exact hk
 ·exact h j (by omega)
theorem Sp (hk : k < 3) (h : cmpQ (cm a k) (cm p k) * cmpQ (cm p k) (cm b k) < 0) : false = decide (insQ a b p) :=
 (decide_eq_false fun e => (AL.1 e).1 k hk h).symm
theorem Sq {q : Prop} (h1 : cmpQ (cm a k) (cm p k) = 0) (h2 : cmpQ (cm p k) (cm b k) ≠ 0) (h3 : cmpQ (cm a k) (cm b k) = 0) : q := by
 have e1 := Ay.1 h1; have e3 := Ay.1 h3
 exact absurd (Ay.2 (e1.symm.trans e3)) h2
theorem Sr (h : decide (a = p) = true) : false = decide (insQ a b p) := (decide_eq_false fun e => (AL.1 e).2.1 (yd h)).symm
theorem Ss (h : decide (b = p) = true) : false = decide (insQ a b p) := (decide_eq_false fun e => (AL.1 e).2.2.1 (yd h)).symm
theorem St (h : Btw a b p k) (hk : ¬ k < 3) (h3 : k ≤ 3) (h1 : ¬ decide (a = p) = true) (h2 : ¬ decide (b = p) = true) : decide (qh (subV b a) (subV p a) = (0, 0, 0)) = decide (insQ a b p) := by
 have e : k = 3 := by omega
 subst e
 exact decide_eq_decide.2 ⟨fun e => AL.2 ⟨h, yd' h1, yd' h2, e⟩, fun e => (AL.1 e).2.2.2⟩
end
section
variable {l : List V3} {p : V3} {i m : Nat} {q : Bool}
theorem SG (h : q = (mid2 l p i || mid1 l p i m)) (hq : q = true) : true = (mid2 l p i || mid1 l p i (m + 1)) := by
 rw [mid1, ← Bool.or_assoc, ← h, hq]; rfl
theorem SF (h : q = (mid2 l p i || mid1 l p i m)) (hq : ¬ q = true) : decide (insQ (l.getD i z3) ((l.drop (i + 1)).getD m z3) p) = (mid2 l p i || mid1 l p i (m + 1)) := by
 have e : q = false := by cases q <;> simp_all
 rw [mid1, ← Bool.or_assoc, ← h, e]; rfl
theorem SH (h : q = (mid2 l p i || mid1 l p i m)) (hm : ¬ m < (l.drop (i + 1)).length) (hl : m ≤ (l.drop (i + 1)).length) : q = mid2 l p (i + 1) := by
 rw [mid2, h, show m = (l.drop (i + 1)).length by omega]
end
section
variable {l o : List V3} {i k : Nat} {q : Bool}
theorem RX (h : o = jK l i) (hk : q = mid2 l (l.getD i z3) k) (he : ¬ k < l.length) (hl : k ≤ l.length) (hq : ¬ (!q) = true) : o = jK l (i + 1) := by
 have e : k = l.length := by omega
 subst e
 have : q = true := by cases q <;> simp_all
 rw [jK, if_pos (by rw [← hk, this]), h]
theorem RW (h : o = jK l i) (hk : q = mid2 l (l.getD i z3) k) (he : ¬ k < l.length) (hl : k ≤ l.length) (hq : (!q) = true) : o ++ [l.getD i z3] = jK l (i + 1) := by
 have e : k = l.length := by omega
 subst e
 have : q = false := by cases q <;> simp_all
 rw [jK, if_neg (by rw [← hk, this]; decide), h]
theorem Mf (h : o = jK (qm l) i) (hi : ¬ i < (qm l).length) (hl : i ≤ (qm l).length) : o = wV l := by
 rw [h, show i = (qm l).length by omega]; rfl
end
theorem RV {l : List V3} {b : Bd} (h : Bnd (.sl tV3) b l) : Bnd (.sl tV3) (.s b.len b.e) (wV l) := TS h (Fs l) fun x hx => Ft hx
theorem QU {l : List V3} {m k : Nat} (hl : l.length ≤ k) (h : ∀ x ∈ l, Bnd tV3 (bV3 m) x) : Bnd (.sl tV3) (.s k (bV3 m)) (qm l) := ⟨Nat.le_trans (Ck l) hl, fun x hx => h x (FT x hx)⟩
theorem Fc {l : List V3} {m : Nat} (h : ∀ x ∈ l, Bnd tV3 (bV3 m) x) : ∀ x ∈ jM z3 cpV l, Bnd tV3 (bV3 m) x := fun x hx => h x ((FR z3 cpV).1 hx)
theorem R3 {l : List V3} {m : Nat} (h : ∀ x ∈ l, Bnd tV3 (bV3 m) x) : ∀ x ∈ unqF z3 eqV l, Bnd tV3 (bV3 m) x := NA (P := fun x => Bnd tV3 (bV3 m) x) h (z3_b m)
theorem BS {q : V3 × Rat} {l : List V3} {k m n : Nat} (hq : Bnd tPl (.p (bV3 k) (.n k)) q) (h : ∀ x ∈ l, Bnd tV3 (bV3 m) x) (hn : 12 * (k + m) + 12 ≤ n) : ∀ x ∈ j5 q l, Bnd tV3 (bV3 n) x := fun x hx => vX (EK hq h _ x hx) hn
theorem zX (q : V3 × Rat) (l : List V3) : (j5 q l).length ≤ 2 * l.length := wU q l _
theorem Vk {q : V3 × Rat} {k : Nat} (h : Bnd tPl (.p (bV3 k) (.n k)) q) : Bnd tPl (.p (bV3 (k + 1)) (.n (k + 1))) (oppP q) := by
 have := Oa h; simpa [Bd.mx] using this
theorem Vq {a : T3} {m : Nat} (h : Bnd tV3 (bV3 m) a.1 ∧ Bnd tV3 (bV3 m) a.2.1 ∧ Bnd tV3 (bV3 m) a.2.2) : ∀ x ∈ [a.1, a.2.1, a.2.2], Bnd tV3 (bV3 m) x := fun x hx => by
 simp only [List.mem_cons, List.not_mem_nil, or_false] at hx
 rcases hx with rfl | rfl | rfl
 ·exact h.1
 ·exact h.2.1
 ·exact h.2.2
theorem Ot {a b : T3} {m : Nat} (ha : Bnd tV3 (bV3 m) a.1 ∧ Bnd tV3 (bV3 m) a.2.1 ∧ Bnd tV3 (bV3 m) a.2.2) (hb : Bnd tV3 (bV3 m) b.1 ∧ Bnd tV3 (bV3 m) b.2.1 ∧ Bnd tV3 (bV3 m) b.2.2) : (zP a b).length ≤ 96 ∧ ∀ x ∈ zP a b, Bnd tV3 (bV3 (8000000 * m + 6000000)) x := by
 have hp := CP hb
 have u1 := up_m (m := m) hp.1 hb.1 hb.2.1; have u2 := up_m (m := m) hp.1 hb.2.1 hb.2.2; have u3 := up_m (m := m) hp.1 hb.2.2 hb.1
 have c1 := BS hp (Vq ha) (Nat.le_refl _)
 have c2 := BS (Vk hp) c1 (Nat.le_refl _)
 have c3 := BS u1 c2 (Nat.le_refl _)
 have c4 := BS u2 c3 (Nat.le_refl _)
 refine ⟨?_, BS u3 c4 (by omega)⟩
 unfold zP
 have e1 := zX (qf b) [a.1, a.2.1, a.2.2]
 have e2 := zX (oppP (qf b)) (j5 (qf b) [a.1, a.2.1, a.2.2])
 have e3 := zX (upP (qf b) b.1 b.2.1) (j5 (oppP (qf b)) (j5 (qf b) [a.1, a.2.1, a.2.2]))
 have e4 := zX (upP (qf b) b.2.1 b.2.2) (j5 (upP (qf b) b.1 b.2.1) (j5 (oppP (qf b)) (j5 (qf b) [a.1, a.2.1, a.2.2])))
 have e5 := zX (upP (qf b) b.2.2 b.1) (j5 (upP (qf b) b.2.1 b.2.2) (j5 (upP (qf b) b.1 b.2.1) (j5 (oppP (qf b)) (j5 (qf b) [a.1, a.2.1, a.2.2]))))
 simp only [List.length_cons, List.length_nil] at e1
 omega
theorem GC {a b : T3} {k : Nat} (hk : 518000000 ≤ k) (ha : Bnd tT3 (bT3 64) a) (hb : Bnd tT3 (bT3 64) b) : (WV.c (.one (.dt (.sl tV3) (.s 96 (bV3 k)) (j9 a b)))).ok := by
 refine qc ?_ rfl
 have h : Bnd (.sl tV3) (.s 96 (bV3 k)) (j9 a b) := by
  unfold j9
  split
  ·exact ⟨Nat.zero_le _, fun x hx => by cases hx⟩
  ·have g := Ot (m := 64) (a := a) (b := b) ⟨ha.1, ha.2.1, ha.2.2⟩ ⟨hb.1, hb.2.1, hb.2.2⟩
   exact ⟨Nat.le_trans (Fs _) g.1, fun x hx => vX (g.2 x (Ft hx)) (by omega)⟩
 exact h
end
abbrev SJ : FI := ⟨202, [(.pr .rat (.pr .rat .rat)), (.pr .rat (.pr .rat .rat)), (.pr .rat (.pr .rat .rat))], [(.p (.n 536870904) (.p (.n 536870904) (.n 536870904))), (.p (.n 536870904) (.p (.n 536870904) (.n 536870904))), (.p (.n 536870904) (.p (.n 536870904) (.n 536870904)))], fun _ => [], fun b z => (fun (a : Rat × Rat × Rat) (b_ : Rat × Rat × Rat) (p : Rat × Rat × Rat) => .c (.one (.dt .bool .u (decide (insQ a b_ p))))) z.1 z.2.1 z.2.2⟩
theorem SK : SJ.OK Tryz.prog := mkF hmix 66 Tryz.func202 rfl rfl (by decide) [(128, .c wy), (133, .c Ca), (135, .c Dv), (136, .c Ah), (210, .c Hz)] (fun _ => rfl) (fun _ => rfl) (fun _ _ => rfl) (fun (a : Rat × Rat × Rat) (b_ : Rat × Rat × Rat) (p : Rat × Rat × Rat) b hx hp => qc trivial rfl) (fun (a : Rat × Rat × Rat) (b_ : Rat × Rat × Rat) (p : Rat × Rat × Rat) hx hp => by
 exact ⟨.loop [.s 10 (.nat .i64) (.n 3)] (fun (k : Nat) => Btw a b_ p k ∧ k ≤ 3) (fun (k : Nat) => 3 - k) (fun (k : Nat) => .cond (.h 4 1 (.ext AG) (.h 4 2 (.ext (AH .rat (.n 536870904) 3)) (.h 4 4 (.ext AG) (.h 4 5 (.ext (AH .rat (.n 536870904) 3)) (.h 4 8 (.ext AG) (.h 4 9 (.ext (AH .rat (.n 536870904) 3)) (.h 4 11 (.ext AG) (.h 4 12 (.ext (AH .rat (.n 536870904) 3)) (.cond (.nil) (.cond (.cond (.h 5 13 (.ext AG) (.h 5 14 (.ext (AH .rat (.n 536870904) 3)) (.h 5 16 (.ext AG) (.h 5 17 (.ext (AH .rat (.n 536870904) 3)) (.nil))))) (.nil)) (.nil))))))))))) (.nil)), kcast (by kernel_rfl) (I (⟨Btw.start, by omega⟩ : Btw a b_ p 0 ∧ 0 ≤ 3) (fun (k : Nat) (hb1 : HB [.s 10 (.nat .i64) (.n 3)] k) (hI : Btw a b_ p k ∧ k ≤ 3) => have hv16 := (show k ≤ 3 from hb1); And.intro (fun (h2 : k < 3) => I (by omega : k < 3) (I (by omega : k < 3) (I (by omega : k < 3) (I (by omega : k < 3) (I (by omega : k < 3) (I (by omega : k < 3) (I (by omega : k < 3) (I (by omega : k < 3) (And.intro (fun (h3 : (cmpQ ([a.1, a.2.1, a.2.2].getD k 0) ([p.1, p.2.1, p.2.2].getD k 0)) * (cmpQ ([p.1, p.2.1, p.2.2].getD k 0) ([b_.1, b_.2.1, b_.2.2].getD k 0)) < 0) => (Sp h2 h3 : false = decide (insQ a b_ p))) (fun (h4 : ¬ ((cmpQ ([a.1, a.2.1, a.2.2].getD k 0) ([p.1, p.2.1, p.2.2].getD k 0)) * (cmpQ ([p.1, p.2.1, p.2.2].getD k 0) ([b_.1, b_.2.1, b_.2.2].getD k 0)) < 0)) => And.intro (fun (h5 : cmpQ ([a.1, a.2.1, a.2.2].getD k 0) ([p.1, p.2.1, p.2.2].getD k 0) = 0) => And.intro (fun (h6 : cmpQ ([p.1, p.2.1, p.2.2].getD k 0) ([b_.1, b_.2.1, b_.2.2].getD k 0) ≠ 0) => I (by omega : k < 3) (I (by omega : k < 3) (I (by omega : k < 3) (I (by omega : k < 3) (And.intro (fun (h7 : cmpQ ([a.1, a.2.1, a.2.2].getD k 0) ([b_.1, b_.2.1, b_.2.2].getD k 0) = 0) => (Sq h5 h6 h7 : false = decide (insQ a b_ p))) (fun (h8 : ¬ (cmpQ ([a.1, a.2.1, a.2.2].getD k 0) ([b_.1, b_.2.1, b_.2.2].getD k 0) = 0)) => I (show (k + 1) ≤ 3 by omega : Bnd (.nat .i64) (.n 3) (k + 1)) (And.intro (⟨hI.1.step h4, by omega⟩ : Btw a b_ p (k + 1) ∧ (k + 1) ≤ 3) (by omega : 3 - (k + 1) < 3 - k)))))))) (fun (h9 : ¬ (cmpQ ([p.1, p.2.1, p.2.2].getD k 0) ([b_.1, b_.2.1, b_.2.2].getD k 0) ≠ 0)) => I (show (k + 1) ≤ 3 by omega : Bnd (.nat .i64) (.n 3) (k + 1)) (And.intro (⟨hI.1.step h4, by omega⟩ : Btw a b_ p (k + 1) ∧ (k + 1) ≤ 3) (by omega : 3 - (k + 1) < 3 - k)))) (fun (h10 : ¬ (cmpQ ([a.1, a.2.1, a.2.2].getD k 0) ([p.1, p.2.1, p.2.2].getD k 0) = 0)) => I (show (k + 1) ≤ 3 by omega : Bnd (.nat .i64) (.n 3) (k + 1)) (And.intro (⟨hI.1.step h4, by omega⟩ : Btw a b_ p (k + 1) ∧ (k + 1) ≤ 3) (by omega : 3 - (k + 1) < 3 - k))))))))))))) (fun (h11 : ¬ (k < 3)) => And.intro (fun (h12 : decide (a = p) = true) => (Sr h12 : false = decide (insQ a b_ p))) (fun (h13 : ¬ (decide (a = p) = true)) => And.intro (fun (h14 : decide (b_ = p) = true) => (Ss h14 : false = decide (insQ a b_ p))) (fun (h15 : ¬ (decide (b_ = p) = true)) => (St hI.1 h11 hI.2 h13 h15 : decide ((qh (subV b_ a) (subV p a)) = (0, 0, 0)) = decide (insQ a b_ p)))))))⟩)
abbrev SI : Ctr Tryz.prog := FI.c SK
abbrev Q9 : FI := ⟨123, [(.sl (.pr .rat (.pr .rat .rat))), (.pr (.pr .rat (.pr .rat .rat)) .rat)], [(.s 128 (.p (.n 67108864) (.p (.n 67108864) (.n 67108864)))), (.p (.p (.n 16777216) (.p (.n 16777216) (.n 16777216))) (.n 16777216))], fun _ => [], fun b z => (fun (l : List (Rat × Rat × Rat)) (q : (Rat × Rat × Rat) × Rat) => .c (.one (.dt (.sl tV3) (.s (2 * (b0 b).len) (bV3 (12 * ((b1 b).mx + (b0 b).mx) + 12))) (j5 q l)))) z.1 z.2⟩
theorem Qa : Q9.OK Tryz.prog := mkF hmix 51 Tryz.func123 rfl rfl (by decide) [(188, .c Qb), (195, .c MQ)] (fun _ => rfl) (fun _ => rfl) (fun _ _ => rfl) (fun (l : List (Rat × Rat × Rat)) (q : (Rat × Rat × Rat) × Rat) b hx hp => qc (RT (Bnds.h2 hx).1 (Bnds.h2 hx).2) rfl) (fun (l : List (Rat × Rat × Rat)) (q : (Rat × Rat × Rat) × Rat) hx hp => by
 have hl0 : l.length ≤ 128 := hx.1.1
 exact ⟨.loop [.s 13 (.nat .i64) (.n 128), .g 5 90001 (.pr .rat (.pr .rat .rat)) (.p (.n 2147483648) (.p (.n 2147483648) (.n 2147483648))) 256] (fun ((i, o) : Nat × List (Rat × Rat × Rat)) => o = jn q l i ∧ i ≤ l.length) (fun ((i, o) : Nat × List (Rat × Rat × Rat)) => l.length - i) (fun ((i, o) : Nat × List (Rat × Rat × Rat)) => .cond (.cond (.h 8 2 (.mk (.im (.pr .rat (.pr .rat .rat)) (.p (.n 2147483648) (.p (.n 2147483648) (.n 2147483648))))) (.cond (.h 10 5 (.mk (.im (.pr .rat (.pr .rat .rat)) (.p (.n 2147483648) (.p (.n 2147483648) (.n 2147483648))))) (.nil)) (.nil))) (.cond (.h 10 5 (.mk (.im (.pr .rat (.pr .rat .rat)) (.p (.n 2147483648) (.p (.n 2147483648) (.n 2147483648))))) (.nil)) (.nil))) (.pre 999999 (.frz 90001 true [4]) (.nil))), kcast (by kernel_rfl) (I (rfl : 0 = ([] : List (Rat × Rat × Rat)).length) (I (⟨rfl, Nat.zero_le _⟩ : ([] : List (Rat × Rat × Rat)) = jn q l 0 ∧ 0 ≤ l.length) (fun (i : Nat) (o : List (Rat × Rat × Rat)) (hb1 : HB [.s 13 (.nat .i64) (.n 128), .g 5 90001 (.pr .rat (.pr .rat .rat)) (.p (.n 2147483648) (.p (.n 2147483648) (.n 2147483648))) 256] (i, o)) (hI : o = jn q l i ∧ i ≤ l.length) => have hv10 := (show i ≤ 128 from hb1.1); have hv11 := (show o.length ≤ 256 from hb1.2.1); have hIi := hI.2; have hol := (show o.length ≤ 2 * i from by rw [hI.1]; exact wU q l i); And.intro (fun (h2 : i < l.length) => I (by omega : i < l.length) (I (by omega : 0 < l.length) (I (Nat.mod_lt _ (by omega) : (i + 1) % l.length < l.length) (And.intro (fun (h3 : cmpQ (dotQ q.1 (l.getD i (0, (0, 0)))) q.2 ≤ 0) => I (by omega : o.length = o.length) (And.intro (fun (h4 : (cmpQ (dotQ q.1 (l.getD i (0, (0, 0)))) q.2) * (cmpQ (dotQ q.1 (l.getD ((i + 1) % l.length) (0, (0, 0)))) q.2) < 0) => I (by (try simp only [List.length_append, List.length_cons, List.length_nil]) <;> omega : o.length + [l.getD i (0, (0, 0))].length = (o ++ [l.getD i (0, (0, 0))]).length) (I (show (i + 1) ≤ 128 by omega : Bnd (.nat .i64) (.n 128) (i + 1)) (I (by (try simp only [List.length_append, List.length_cons, List.length_nil]) <;> omega : (o.length + [l.getD i (0, (0, 0))].length) + [crsV q (l.getD i (0, (0, 0))) (l.getD ((i + 1) % l.length) (0, (0, 0)))].length = ((o ++ [l.getD i (0, (0, 0))]) ++ [crsV q (l.getD i (0, (0, 0))) (l.getD ((i + 1) % l.length) (0, (0, 0)))]).length) (I (by (try simp only [List.length_append, List.length_cons, List.length_nil]) <;> omega : (o.length + [l.getD i (0, (0, 0))].length) + [crsV q (l.getD i (0, (0, 0))) (l.getD ((i + 1) % l.length) (0, (0, 0)))].length ≤ 256) (And.intro (⟨Ox hI.1 h3 h4, by omega⟩ : ((o ++ [l.getD i (0, (0, 0))]) ++ [crsV q (l.getD i (0, (0, 0))) (l.getD ((i + 1) % l.length) (0, (0, 0)))]) = jn q l (i + 1) ∧ (i + 1) ≤ l.length) (by omega : l.length - (i + 1) < l.length - i)))))) (fun (h5 : ¬ ((cmpQ (dotQ q.1 (l.getD i (0, (0, 0)))) q.2) * (cmpQ (dotQ q.1 (l.getD ((i + 1) % l.length) (0, (0, 0)))) q.2) < 0)) => I (show (i + 1) ≤ 128 by omega : Bnd (.nat .i64) (.n 128) (i + 1)) (I (by (try simp only [List.length_append, List.length_cons, List.length_nil]) <;> omega : o.length + [l.getD i (0, (0, 0))].length = (o ++ [l.getD i (0, (0, 0))]).length) (I (by (try simp only [List.length_append, List.length_cons, List.length_nil]) <;> omega : o.length + [l.getD i (0, (0, 0))].length ≤ 256) (And.intro (⟨Ow hI.1 h3 h5, by omega⟩ : (o ++ [l.getD i (0, (0, 0))]) = jn q l (i + 1) ∧ (i + 1) ≤ l.length) (by omega : l.length - (i + 1) < l.length - i))))))) (fun (h6 : ¬ (cmpQ (dotQ q.1 (l.getD i (0, (0, 0)))) q.2 ≤ 0)) => And.intro (fun (h7 : (cmpQ (dotQ q.1 (l.getD i (0, (0, 0)))) q.2) * (cmpQ (dotQ q.1 (l.getD ((i + 1) % l.length) (0, (0, 0)))) q.2) < 0) => I (by omega : o.length = o.length) (I (show (i + 1) ≤ 128 by omega : Bnd (.nat .i64) (.n 128) (i + 1)) (I (by (try simp only [List.length_append, List.length_cons, List.length_nil]) <;> omega : o.length + [crsV q (l.getD i (0, (0, 0))) (l.getD ((i + 1) % l.length) (0, (0, 0)))].length = (o ++ [crsV q (l.getD i (0, (0, 0))) (l.getD ((i + 1) % l.length) (0, (0, 0)))]).length) (I (by (try simp only [List.length_append, List.length_cons, List.length_nil]) <;> omega : o.length + [crsV q (l.getD i (0, (0, 0))) (l.getD ((i + 1) % l.length) (0, (0, 0)))].length ≤ 256) (And.intro (⟨Ov hI.1 h6 h7, by omega⟩ : (o ++ [crsV q (l.getD i (0, (0, 0))) (l.getD ((i + 1) % l.length) (0, (0, 0)))]) = jn q l (i + 1) ∧ (i + 1) ≤ l.length) (by omega : l.length - (i + 1) < l.length - i)))))) (fun (h8 : ¬ ((cmpQ (dotQ q.1 (l.getD i (0, (0, 0)))) q.2) * (cmpQ (dotQ q.1 (l.getD ((i + 1) % l.length) (0, (0, 0)))) q.2) < 0)) => I (show (i + 1) ≤ 128 by omega : Bnd (.nat .i64) (.n 128) (i + 1)) (I (by omega : o.length = o.length) (And.intro (⟨Ou hI.1 h6 h8, by omega⟩ : o = jn q l (i + 1) ∧ (i + 1) ≤ l.length) (by omega : l.length - (i + 1) < l.length - i))))))))) (fun (h9 : ¬ (i < l.length)) => I (by omega : o.length = o.length) ((by rw [hI.1, show i = l.length by omega]; rfl : o = j5 q l))))))⟩)
abbrev Q8 : Ctr Tryz.prog := FI.c Qa
abbrev N4 : FO := ⟨197, [(.sl (.pr .rat (.pr .rat .rat)))], [(.s 255 (.p (.n 536870904) (.p (.n 536870904) (.n 536870904))))], fun _ => [], fun k b z => (fun (l : List (Rat × Rat × Rat)) => .c (.one (.gs k (l.length) 9 ((b0 b).len)))) z, fun b z => (fun (l : List (Rat × Rat × Rat)) => .gro (.pr .rat (.pr .rat .rat)) ((b0 b).e) (l)) z⟩
theorem N5 : N4.OK Tryz.prog := mkO hmix 8 7 Tryz.func197 rfl rfl (by decide) [] (fun _ => rfl) (fun _ _ _ => rfl) (fun _ _ => rfl) (fun _ _ _ => ⟨rfl, rfl⟩) (fun (l : List (Rat × Rat × Rat)) k b hx hp => ⟨qc (Bnds.h1 hx).sl.1 rfl, (Bnds.h1 hx).sl.2⟩) (fun (l : List (Rat × Rat × Rat)) hx hp => by
 exact bodyO.g (.cond (.nil) (.h 3 0 (.mk (.gro (.pr .rat (.pr .rat .rat)) (.p (.n 536870904) (.p (.n 536870904) (.n 536870904))))) (.nil))) (kcast (by kernel_rfl) (And.intro (fun (h1 : l = []) => And.intro (h1.symm : ([] : List (Rat × Rat × Rat)) = l) ((by rw [h1]; rfl : 0 = l.length))) (I (rfl : 0 = ([] : List (Rat × Rat × Rat)).length) (And.intro (rfl : ([] : List (Rat × Rat × Rat)) ++ l = l) ((Nat.zero_add _ : 0 + l.length = l.length)))))))
abbrev N3 : CtrO Tryz.prog := FO.c N5
abbrev Px : FV := ⟨284, true, (.pr .rat (.pr .rat .rat)), (.p (.n 536870904) (.p (.n 536870904) (.n 536870904))), 255, [(.nat .i64), (.nat .i64), (.fn 199)], [(.n 255), (.n 255), .u], fun l lo n cap z => (fun (a : Nat) (b_ : Nat) (u : Unit) => [a = 0, b_ = l.length, n = l.length]) z.1 z.2.1 z.2.2, fun k b l lo n cap z => ve, fun l lo n cap z => jM z3 cpV l⟩
theorem Py : Px.OK Tryz.prog := mkSl hmix 53 Tryz.func284 rfl rfl (by decide) [(199, .c Lz)] (fun _ => rfl) (fun _ _ _ _ _ => rfl) (fun _ _ _ _ _ _ _ => rfl) (fun _ _ _ _ _ _ => rfl) (fun (l : List (Rat × Rat × Rat)) (lo n cap : Nat) (a : Nat) (b_ : Nat) (u : Unit) k b hx hs hn (hm : n ≤ 255) hp => ⟨zt, Fc hs⟩) (fun (l : List (Rat × Rat × Rat)) (lo n cap : Nat) (a : Nat) (b_ : Nat) (u : Unit) hs hx hn (hm : n ≤ 255) hp => by
 have hx0 : a ≤ 255 := hx.1
 have hx1 : b_ ≤ 255 := hx.2.1
 have hp0 : a = 0 := hp _ (List.mem_cons_self)
 have hp1 : b_ = l.length := hp _ (List.mem_cons_of_mem _ (List.mem_cons_self))
 have hp2 : n = l.length := hp _ (List.mem_cons_of_mem _ (List.mem_cons_of_mem _ (List.mem_cons_self)))
 exact ⟨.loop [.s 8 (.nat .i64) (.n 256), .bk 100000 (.pr .rat (.pr .rat .rat)) (.p (.n 536870904) (.p (.n 536870904) (.n 536870904)))] (fun ((i, m) : Nat × List (Rat × Rat × Rat)) => (1 ≤ l.length → SoO z3 cpV l m i) ∧ 1 ≤ i ∧ (¬ 1 ≤ l.length → m = l)) (fun ((i, m) : Nat × List (Rat × Rat × Rat)) => l.length - i) (fun ((i, m) : Nat × List (Rat × Rat × Rat)) => .cond (.loop [.s 9 (.nat .i64) (.n 256), .bk 100000 (.pr .rat (.pr .rat .rat)) (.p (.n 536870904) (.p (.n 536870904) (.n 536870904)))] (fun ((j, m2) : Nat × List (Rat × Rat × Rat)) => SoI z3 cpV l m2 i j) (fun ((j, m2) : Nat × List (Rat × Rat × Rat)) => j) (fun ((j, m2) : Nat × List (Rat × Rat × Rat)) => .cond (.h 4 11 (.i .sub) (.cond (.h 6 4 (.i .sub) (.h 6 7 (.i .sub) (.h 5 1 (.i .sub) (.nil)))) (.nil))) (.nil))) (.nil)), kcast (by kernel_rfl) (I (⟨fun h => by rw [hp0]; exact SoO.start h, by omega, fun _ => rfl⟩ : (1 ≤ l.length → SoO z3 cpV l l (a + 1)) ∧ 1 ≤ (a + 1) ∧ (¬ 1 ≤ l.length → l = l)) (fun (i : Nat) (m : List (Rat × Rat × Rat)) (hb1 : HB [.s 8 (.nat .i64) (.n 256), .bk 100000 (.pr .rat (.pr .rat .rat)) (.p (.n 536870904) (.p (.n 536870904) (.n 536870904)))] (i, m)) (hI : (1 ≤ l.length → SoO z3 cpV l m i) ∧ 1 ≤ i ∧ (¬ 1 ≤ l.length → m = l)) => have hv10 := (show i ≤ 256 from hb1.1); have hi1 := hI.2.1; And.intro (fun (h2 : i < b_) => I ((hI.1 (by omega)).inner (by omega) : SoI z3 cpV l m i i) (fun (j : Nat) (m2 : List (Rat × Rat × Rat)) (hb3 : HB [.s 9 (.nat .i64) (.n 256), .bk 100000 (.pr .rat (.pr .rat .rat)) (.p (.n 536870904) (.p (.n 536870904) (.n 536870904)))] (j, m2)) (hJ : SoI z3 cpV l m2 i j) => have hv8 := (show j ≤ 256 from hb3.1); have hJj := hJ.hj; have hJl := hJ.len; have hJi := hJ.hi; And.intro (fun (h4 : a < j) => I (by omega : j < n) (I (by omega : j < m2.length) (I (by omega : 1 ≤ j) (I (by omega : j - 1 < n) (I (by omega : j - 1 < m2.length) (And.intro (fun (h5 : cpV (m2.getD j (0, (0, 0))) (m2.getD (j - 1) (0, (0, 0))) < 0) => I (by omega : 1 ≤ j) (I (by omega : 1 ≤ j) (I (by omega : j - 1 < n) (I (by omega : j - 1 < m2.length) (I (by omega : j < n) (I (by omega : j < m2.length) (I (by omega : j < n) (I (by omega : j < m2.length) (I (by omega : j - 1 < n) (I (by simp only [List.length_set]; omega : j - 1 < (m2.set j (m2.getD (j - 1) (0, (0, 0)))).length) (I (by omega : 1 ≤ j) (And.intro (hJ.step (by omega) h5 : SoI z3 cpV l ((m2.set j (m2.getD (j - 1) (0, (0, 0)))).set (j - 1) (m2.getD j (0, (0, 0)))) i (j - 1)) (by omega : (j - 1) < j))))))))))))) (fun (h6 : ¬ (cpV (m2.getD j (0, (0, 0))) (m2.getD (j - 1) (0, (0, 0))) < 0)) => I (show (i + 1) ≤ 256 by omega : Bnd (.nat .i64) (.n 256) (i + 1)) (And.intro (⟨fun _ => hJ.stop (.inr h6), by omega, fun h => absurd h (by omega)⟩ : (1 ≤ l.length → SoO z3 cpV l m2 (i + 1)) ∧ 1 ≤ (i + 1) ∧ (¬ 1 ≤ l.length → m2 = l)) (by omega : l.length - (i + 1) < l.length - i))))))))) (fun (h7 : ¬ (a < j)) => I (show (i + 1) ≤ 256 by omega : Bnd (.nat .i64) (.n 256) (i + 1)) (And.intro (⟨fun _ => hJ.stop (.inl (by omega)), by omega, fun h => absurd h (by omega)⟩ : (1 ≤ l.length → SoO z3 cpV l m2 (i + 1)) ∧ 1 ≤ (i + 1) ∧ (¬ 1 ≤ l.length → m2 = l)) (by omega : l.length - (i + 1) < l.length - i))))) (fun (h9 : ¬ (i < b_)) => And.intro (by
  by_cases h0 : 1 ≤ l.length
  · exact (hI.1 h0).fin (by omega)
  · rw [hI.2.2 h0]; exact Nv h0 : m = jM z3 cpV l) (trivial))))⟩)
abbrev Pw : CtrS Tryz.prog := FV.c Py
abbrev MG : FI := ⟨292, [(.nat .u64)], [(.n 255)], fun _ => [], fun b z => (fun (x : Nat) => .c (.one (.dt (.nat .i64) (.n (Nat.log2 (b0 b).nb + 1)) (bl x)))) z⟩
theorem MI : MG.OK Tryz.prog := mkF hmix 25 Tryz.func292 rfl rfl (by decide) [] (fun _ => rfl) (fun _ => rfl) (fun _ _ => rfl) (fun (x : Nat) b hx hp => qc (Gv (Bnds.h1 hx).nat) rfl) (fun (x : Nat) hx hp => by
 have hx0 : x ≤ 255 := hx
 have hx9 : x < 256 := Nat.lt_succ_of_le hx
 exact ⟨.cond (.dead) (.cond (.dead) (.cond (.dead) (.h 10 3 (.any [.c (.one (.vl (.string tab8))), .c (.one (.dt (.nat .u8) (.n 255) x))] (.c (.one (.dt (.nat .u8) (.n 8) (bl x)))) (qc (bl_8 hx9) rfl) (Op.index 9 (.const (.string tab8)) (.tmp 21)) (fun _ => AJ (j := x) (by kernel_rfl) rfl hx9 (by kernel_rfl))) (.nil)))), kcast (by kernel_rfl) (And.intro (fun (h1 : 4294967296 ≤ x) => (by omega : False)) (fun (h2 : ¬ (4294967296 ≤ x)) => And.intro (fun (h3 : 65536 ≤ x) => (by omega : False)) (fun (h4 : ¬ (65536 ≤ x)) => And.intro (fun (h5 : 256 ≤ x) => (by omega : False)) (fun (h6 : ¬ (256 ≤ x)) => I (rfl : ([.c (.one (.vl (.string tab8))), .c (.one (.dt (.nat .u8) (.n 255) x))] : List WV) = [.c (.one (.vl (.string tab8))), .c (.one (.dt (.nat .u8) (.n 255) x))]) (I (rfl : (Op.index 9 (.const (.string tab8)) (.tmp 21) : Op) = Op.index 9 (.const (.string tab8)) (.tmp 21)) ((by omega : 0 + (bl x) = bl x)))))))⟩)
abbrev MF : Ctr Tryz.prog := FI.c MI
abbrev Sz : FI := ⟨258, [(.nat .u64)], [(.n 255)], fun _ => [], fun b z => (fun (x : Nat) => .c (.one (.dt (.nat .i64) (.n (Nat.log2 (b0 b).nb + 1)) (bl x)))) z⟩
theorem SA : Sz.OK Tryz.prog := mkF hmix 8 Tryz.func258 rfl rfl (by decide) [(292, .c MF)] (fun _ => rfl) (fun _ => rfl) (fun _ _ => rfl) (fun (x : Nat) b hx hp => qc (Gv (Bnds.h1 hx).nat) rfl) (fun (x : Nat) hx hp => by
 exact ⟨.nil, kcast (by kernel_rfl) ((Eq.refl (bl x)))⟩)
abbrev Sy : Ctr Tryz.prog := FI.c SA
abbrev Qi : FV := ⟨257, true, (.pr .rat (.pr .rat .rat)), (.p (.n 536870904) (.p (.n 536870904) (.n 536870904))), 255, [(.nat .i64), (.nat .i64), (.nat .i64), (.fn 199)], [(.n 255), (.n 255), (.n 64), .u], fun l lo n cap z => (fun (a : Nat) (b_ : Nat) (w : Nat) (u : Unit) => [a = 0, b_ = l.length, l.length ≤ 12, n = l.length]) z.1 z.2.1 z.2.2.1 z.2.2.2, fun k b l lo n cap z => ve, fun l lo n cap z => jM z3 cpV l⟩
theorem Qj : Qi.OK Tryz.prog := mkSl hmix 148 Tryz.func257 rfl rfl (by decide) [(284, .s Pw)] (fun _ => rfl) (fun _ _ _ _ _ => rfl) (fun _ _ _ _ _ _ _ => rfl) (fun _ _ _ _ _ _ => rfl) (fun (l : List (Rat × Rat × Rat)) (lo n cap : Nat) (a : Nat) (b_ : Nat) (w : Nat) (u : Unit) k b hx hs hn (hm : n ≤ 255) hp => ⟨zt, Fc hs⟩) (fun (l : List (Rat × Rat × Rat)) (lo n cap : Nat) (a : Nat) (b_ : Nat) (w : Nat) (u : Unit) hs hx hn (hm : n ≤ 255) hp => by
 have hx0 : a ≤ 255 := hx.1
 have hx1 : b_ ≤ 255 := hx.2.1
 have hx2 : w ≤ 64 := hx.2.2.1
 have hp0 : a = 0 := hp _ (List.mem_cons_self)
 have hp1 : b_ = l.length := hp _ (List.mem_cons_of_mem _ (List.mem_cons_self))
 have hp2 : l.length ≤ 12 := hp _ (List.mem_cons_of_mem _ (List.mem_cons_of_mem _ (List.mem_cons_self)))
 have hp3 : n = l.length := hp _ (List.mem_cons_of_mem _ (List.mem_cons_of_mem _ (List.mem_cons_of_mem _ (List.mem_cons_self))))
 exact ⟨.h 2 2 (.i .sub) (.cond (.nil) (.dead)), kcast (by kernel_rfl) (I (by omega : a ≤ b_) (And.intro (fun (h1 : b_ - a ≤ 12) => I (by omega : a = 0) (I (by omega : b_ = l.length) (I (by omega : n = l.length) (And.intro (Eq.refl (jM z3 cpV l)) (trivial))))) (fun (h2 : ¬ (b_ - a ≤ 12)) => (by omega : False))))⟩)
abbrev Qh : CtrS Tryz.prog := FV.c Qj
abbrev Pc : FV := ⟨198, true, (.pr .rat (.pr .rat .rat)), (.p (.n 536870904) (.p (.n 536870904) (.n 536870904))), 255, [(.fn 199)], [.u], fun l lo n cap z => [l.length ≤ 12, n = l.length], fun k b l lo n cap z => ve, fun l lo n cap z => jM z3 cpV l⟩
theorem Pd : Pc.OK Tryz.prog := mkSl hmix 14 Tryz.func198 rfl rfl (by decide) [(257, .s Qh), (258, .c Sy)] (fun _ => rfl) (fun _ _ _ _ _ => rfl) (fun _ _ _ _ _ _ _ => rfl) (fun _ _ _ _ _ _ => rfl) (fun (l : List (Rat × Rat × Rat)) (lo n cap : Nat) (u : Unit) k b hx hs hn (hm : n ≤ 255) hp => ⟨zt, Fc hs⟩) (fun (l : List (Rat × Rat × Rat)) (lo n cap : Nat) (u : Unit) hs hx hn (hm : n ≤ 255) hp => by
 have hp0 : l.length ≤ 12 := hp _ (List.mem_cons_self)
 have hp1 : n = l.length := hp _ (List.mem_cons_of_mem _ (List.mem_cons_self))
 exact ⟨.nil, kcast (by kernel_rfl) (I (Eq.refl 0) (I (hp1 : n = l.length) (I (hp0 : l.length ≤ 12) (I (hp1 : n = l.length) (And.intro (Eq.refl (jM z3 cpV l)) (trivial))))))⟩)
abbrev Pb : CtrS Tryz.prog := FV.c Pd
abbrev Jx : FV := ⟨200, true, (.pr .rat (.pr .rat .rat)), (.p (.n 536870904) (.p (.n 536870904) (.n 536870904))), 255, [(.fn 201)], [.u], fun l lo n cap z => [n = l.length], fun k b l lo n cap z => .c (.one (.gs k (unqD z3 eqV l).length 9 255)), fun l lo n cap z => unqF z3 eqV l⟩
theorem Jy : Jx.OK Tryz.prog := mkSl hmix 66 Tryz.func200 rfl rfl (by decide) [(201, .c QG)] (fun _ => rfl) (fun _ _ _ _ _ => rfl) (fun _ _ _ _ _ _ _ => rfl) (fun _ _ _ _ _ _ => rfl) (fun (l : List (Rat × Rat × Rat)) (lo n cap : Nat) (u : Unit) k b hx hs hn (hm : n ≤ 255) hp => ⟨qc (show (unqD z3 eqV l).length ≤ 255 from by have := D0 (d := z3) (e := eqV) (l := l); have h0 := hp _ List.mem_cons_self; omega) rfl, R3 hs⟩) (fun (l : List (Rat × Rat × Rat)) (lo n cap : Nat) (u : Unit) hs hx hn (hm : n ≤ 255) hp => by
 have hp0 : n = l.length := hp _ (List.mem_cons_self)
 exact ⟨.cond (.nil) (.loop [.s 5 (.nat .i64) (.n 1048576), .bk 100000 (.pr .rat (.pr .rat .rat)) (.p (.n 536870904) (.p (.n 536870904) (.n 536870904)))] (fun ((f, m0) : Nat × List (Rat × Rat × Rat)) => m0 = l ∧ CmO z3 eqV m0 f) (fun ((f, m0) : Nat × List (Rat × Rat × Rat)) => n - f) (fun ((f, m0) : Nat × List (Rat × Rat × Rat)) => .cond (.h 6 7 (.i .sub) (.cond (.loop [.s 7 (.nat .i64) (.n 1048576), .s 5 (.nat .i64) (.n 1048576), .bk 100000 (.pr .rat (.pr .rat .rat)) (.p (.n 536870904) (.p (.n 536870904) (.n 536870904)))] (fun ((q, j, m) : Nat × Nat × List (Rat × Rat × Rat)) => CmI z3 eqV l m j (f + q) ∧ 1 ≤ q) (fun ((q, j, m) : Nat × Nat × List (Rat × Rat × Rat)) => n - f - q) (fun ((q, j, m) : Nat × Nat × List (Rat × Rat × Rat)) => .cond (.h 11 7 (.i .sub) (.nil)) (.nil))) (.nil))) (.nil))), kcast (by kernel_rfl) (And.intro (fun (h1 : n < 2) => And.intro (FX (Er (by omega)) : l = unqF z3 eqV l) ((by rw [Er (by omega)]; exact hp0 : n = (unqD z3 eqV l).length))) (fun (h2 : ¬ (n < 2)) => I (⟨rfl, CmO.start (by omega)⟩ : l = l ∧ CmO z3 eqV l 1) (fun (f : Nat) (m0 : List (Rat × Rat × Rat)) (hb3 : HB [.s 5 (.nat .i64) (.n 1048576), .bk 100000 (.pr .rat (.pr .rat .rat)) (.p (.n 536870904) (.p (.n 536870904) (.n 536870904)))] (f, m0)) (hI : m0 = l ∧ CmO z3 eqV m0 f) => have hv15 := (show f ≤ 1048576 from hb3.1); have hml := (show m0.length = n from by rw [hI.1]; exact hp0.symm); have hf1 := hI.2.h1; have hf2 := hI.2.hl; And.intro (fun (h4 : f < n) => I (by omega : f < n) (I (by omega : f < m0.length) (I (by omega : 1 ≤ f) (I (by omega : f - 1 < n) (I (by omega : f - 1 < m0.length) (And.intro (fun (h5 : decide ((m0.getD f (0, (0, 0))) = (m0.getD (f - 1) (0, (0, 0)))) = true) => I (by omega : f ≤ n) (I (by omega : n ≤ m0.length) (I (⟨by have h := CmI.start hI.2 (by omega) h5; have e := hI.1; subst e; exact h, Nat.le_refl 1⟩ : CmI z3 eqV l m0 f (f + 1) ∧ 1 ≤ 1) (fun (q : Nat) (j : Nat) (m : List (Rat × Rat × Rat)) (hb6 : HB [.s 7 (.nat .i64) (.n 1048576), .s 5 (.nat .i64) (.n 1048576), .bk 100000 (.pr .rat (.pr .rat .rat)) (.p (.n 536870904) (.p (.n 536870904) (.n 536870904)))] (q, j, m)) (hJ : CmI z3 eqV l m j (f + q) ∧ 1 ≤ q) => have hv11 := (show q ≤ 1048576 from hb6.1); have hv12 := (show j ≤ 1048576 from hb6.2.1); have hjl := hJ.1.hl; have hj1 := hJ.1.hk; have hj2 := hJ.1.hi; have hj3 := hJ.2; And.intro (fun (h7 : q < n - f) => I (by omega : q < n - f) (I (by omega : f + q < m.length) (I (by omega : 1 ≤ q) (I (by omega : q - 1 < n - f) (I (by omega : f + (q - 1) < m.length) (And.intro (fun (h8 : (!(decide ((m.getD (f + q) (0, (0, 0))) = (m.getD (f + (q - 1)) (0, (0, 0)))))) = true) => I (by omega : q < n - f) (I (by omega : f + q < m.length) (I (by omega : j < n) (I (by omega : j < m.length) (I (show (q + 1) ≤ 1048576 by omega : Bnd (.nat .i64) (.n 1048576) (q + 1)) (I (show (j + 1) ≤ 1048576 by omega : Bnd (.nat .i64) (.n 1048576) (j + 1)) (And.intro (⟨by rw [show f + (q + 1) = f + q + 1 by omega]; exact hJ.1.go (by omega) (by rw [show f + q - 1 = f + (q - 1) by omega]; exact mt of_decide_eq_true (nd h8)), by omega⟩ : CmI z3 eqV l (m.set j (m.getD (f + q) (0, (0, 0)))) (j + 1) (f + (q + 1)) ∧ 1 ≤ (q + 1)) (by omega : n - f - (q + 1) < n - f - q)))))))) (fun (h9 : ¬ ((!(decide ((m.getD (f + q) (0, (0, 0))) = (m.getD (f + (q - 1)) (0, (0, 0)))))) = true)) => I (show (q + 1) ≤ 1048576 by omega : Bnd (.nat .i64) (.n 1048576) (q + 1)) (And.intro (⟨by rw [show f + (q + 1) = f + q + 1 by omega]; exact hJ.1.stay (by omega) (by rw [show f + q - 1 = f + (q - 1) by omega]; exact decide_eq_true (nd' h9)), by omega⟩ : CmI z3 eqV l m j (f + (q + 1)) ∧ 1 ≤ (q + 1)) (by omega : n - f - (q + 1) < n - f - q))))))))) (fun (h10 : ¬ (q < n - f)) => I (by omega : j ≤ n) (I (by omega : n ≤ m.length) (I (by omega : 0 < n - j) (I (by omega : j + (n - j) ≤ m.length) (I (by omega : j ≤ n) (I (by rw [Mc (t := tV3) (by omega)]; omega : n ≤ (clrL (.pr .rat (.pr .rat .rat)) m j (n - j)).length) (And.intro ((CmI.all (t := tV3) (e := eqV) hJ.1 (by omega) (by omega)).1 : clrL (.pr .rat (.pr .rat .rat)) m j (n - j) = unqF z3 eqV l) (((CmI.all (t := tV3) (e := eqV) (n := n) hJ.1 (by omega) (by omega)).2 : j = (unqD z3 eqV l).length))))))))))))) (fun (h13 : ¬ (decide ((m0.getD f (0, (0, 0))) = (m0.getD (f - 1) (0, (0, 0)))) = true)) => I (show (f + 1) ≤ 1048576 by omega : Bnd (.nat .i64) (.n 1048576) (f + 1)) (And.intro (⟨hI.1, hI.2.step (by omega) h13⟩ : m0 = l ∧ CmO z3 eqV m0 (f + 1)) (by omega : n - (f + 1) < n - f))))))))) (fun (h14 : ¬ (f < n)) => And.intro (by have hd := hI.2.all (by omega); rw [hI.1] at hd ⊢; exact FX hd : m0 = unqF z3 eqV l) ((by have hd := hI.2.all (by omega); rw [hI.1] at hd; rw [hd]; exact hp0 : n = (unqD z3 eqV l).length))))))⟩)
abbrev Jw : CtrS Tryz.prog := FV.c Jy
def rwSF (slot : Nat) (t : Ty) (b : Bd) (y : t.den) (st : WSt) : Option (List Prop × WSt) :=
 match look st.m slot with
 | some (.c (.one (.dt t' b' x))) => if h : t'.beq t = true then (bif j8 st.m then some ([jk h x = y, Bnd t b y], setV st slot (.c (.one (.dt t b y)))) else none) else none
 | some (.c (.agg [.dt t' b' x])) => if h : t'.beq t = true then (bif j8 st.m then some ([jk h x = y, Bnd t b y], setV st slot (.c (.agg [.dt t b y]))) else none) else none
 | _ => none
def rwS (slot : Nat) (t : Ty) (b : Bd) (y : t.den) : PExt := ⟨fun _ st => rwSF slot t b y st, by
 intro n Ks st st' vc hk h hvc
 unfold rwSF at h
 split at h
 ·rename_i t' b' x hl
  split at h
  ·rename_i hb
   have := Ty.beq_eq hb; subst this
   cases hn : j8 st.m with
   | false => rw [hn] at h; cases h
   | true =>
    rw [hn] at h
    simp only [cond_true, Option.some.injEq, Prod.mk.injEq] at h; obtain ⟨rfl, rfl⟩ := h
    have e : jk hb x = y := hvc _ List.mem_cons_self
    have e2 : Bnd t' b y := hvc (Bnd t' b y) (by simp)
    rw [Al] at e; subst e
    have h0 : (WV.c (.one (.dt t' b' x))).ok := hk.m slot _ (by unfold qv; rw [hl])
    exact Ad hk hn hl rfl ⟨e2, h0.2⟩
  ·cases h
 ·rename_i t' b' x hl
  split at h
  ·rename_i hb
   have := Ty.beq_eq hb; subst this
   cases hn : j8 st.m with
   | false => rw [hn] at h; cases h
   | true =>
    rw [hn] at h
    simp only [cond_true, Option.some.injEq, Prod.mk.injEq] at h; obtain ⟨rfl, rfl⟩ := h
    have e : jk hb x = y := hvc _ List.mem_cons_self
    have e2 : Bnd t' b y := hvc (Bnd t' b y) (by simp)
    rw [Al] at e; subst e
    exact Ad hk hn hl rfl (j1 e2)
  ·cases h
 ·cases h⟩
def rwBF (k : Nat) (t : Ty) (b : Bd) (y : t.den) (st : WSt) : Option (List Prop × WSt) :=
 match look st.L k with
 | some (.rig l) => match reify t l with
  | some (b', x, []) => bif b'.le b then some ([x = y], ⟨st.rm, st.m, st.rL, (k, .rig [.dt t b y]) :: st.L.filter fun p => !Nat.beq p.1 k⟩) else none
  | _ => none
 | _ => none
def rwB (k : Nat) (t : Ty) (b : Bd) (y : t.den) : PExt := ⟨fun _ st => rwBF k t b y st, by
 intro n Ks st st' vc hk h hvc
 unfold rwBF at h
 split at h
 ·rename_i l hl
  split at h
  ·rename_i b' x hr
   cases hb : b'.le b with
   | false => rw [hb] at h; cases h
   | true =>
    rw [hb] at h
    simp only [cond_true, Option.some.injEq, Prod.mk.injEq] at h; obtain ⟨rfl, rfl⟩ := h
    have e : x = y := hvc _ List.mem_cons_self
    subst e
    have hlok : WAs.ok l := hk.l k (.rig l) (by unfold qi; rw [hl])
    obtain ⟨m0, e1, i1, o1⟩ := jo hr
    have e1 : WAs.exp l = m0 := by rw [e1]; simp [WAs.exp]
    subst e1
    obtain ⟨e2, o2⟩ := Ie (n := n) (Ks := Ks) hk hl (B := .rig l) (B' := .rig [.dt t b x]) (by
     show BImp k (.rigid (WAs.exp l)) (.rigid (WAs.exp [.dt t b x]))
     rw [jy]; exact jW i1) (j1 (Bnd.mono hb (o1 hlok).1))
    obtain ⟨e3, o3⟩ := Mo (n := n) (Ks := Ks) o2
    exact ⟨Ent.trans e2 e3, o3, rfl, rfl⟩
  ·cases h
 ·cases h⟩
end Go.Proofs.YtchgnllhbcadpaaGreat.Sx
