/-
Own laws and walks for the claim, part 5: WRef4, WRef5, WRef6, WRef7, WRef8, WYa1, WYa2, WYa3, WVa1, WVa2, WOa1, WDa2, WBl, WBl2, WBa1, WBa2, WBa3, WBa4, WBa5, WMl, WNm1, WSl, WSp1, WSp2, WSp3, WTl, WRt1, WCl, WAr1, WAr2, WEl, WEq1, WLw1, WLw2, WFc, WGl, WLw3. No condition.
-/
import Derived.Test.YtcjgaaibflcdiaaGreatC4
import Derived.ProofKit

namespace Go.Proofs.YtcjgaaibflcdiaaGreat.Sx
open Go Go.Proofs
set_option linter.unusedVariables false
set_option linter.unusedSimpArgs false
set_option maxRecDepth 20000
set_option maxHeartbeats 4000000
abbrev xsmall_i : FI := ⟨174, [.mag], [(.n 1099511627776)], fun _ => [], fun b z => (fun (x : Nat) => .tup [.one (.dt (.nat .u64) (.n 18446744073709551615) (xw x)), .one (.dt .bool .u (xk x))]) z⟩
theorem xsmall_k : xsmall_i.OK Tryz.prog := mkF hmix 26 Tryz.func174 rfl rfl (by decide) [] (fun _ => rfl) (fun _ => rfl) (fun _ _ => rfl) (fun (x : Nat) b hx hp => tup_cons (one_ok (xw_le x) rfl) (tup_cons (one_ok trivial rfl) tup_nil)) (fun (x : Nat) hx hp => by
 have hx0 : lt2 x 1099511627776 := hx
 have hl0 : (limbs x).length ≤ 34359738369 := limbs_len_le (Nat.le_of_lt hx0)
 exact ⟨.cond (.nil) (.cond (.nil) (.cond (.h 7 9 (.i (.n (((limbs x).getD 0 0) + (((limbs x).getD 1 0) * 2 ^ 32)) 18446744073709551615)) (.nil)) (.nil))), kcast (by kernel_rfl) (And.intro (fun (h1 : (limbs x).length = 0) => And.intro (by rw [(xw_y (by omega)).1]; exact (nl0.1 (by omega)).symm : 0 = xw x) ((xw_y (by omega)).2.symm : true = xk x)) (fun (h2 : ¬ ((limbs x).length = 0)) => And.intro (fun (h3 : (limbs x).length = 1) => I (by omega : 0 < (limbs x).length) (And.intro (by rw [(xw_y (by omega)).1]; exact limb0 (by omega) : (limbs x).getD 0 0 = xw x) ((xw_y (by omega)).2.symm : true = xk x))) (fun (h4 : ¬ ((limbs x).length = 1)) => And.intro (fun (h5 : (limbs x).length = 2) => I (by omega : 0 < (limbs x).length) (I (by omega : 1 < (limbs x).length) (I (bi_or' _ 32 rfl (limbs_getD_lt _ _) (by have := limbs_getD_lt x 0; have := limbs_getD_lt x 1; omega) : BinIs .or .u64 (((limbs x).getD 0 0 : Nat) : Int) ((((limbs x).getD 1 0) * 2 ^ 32 : Nat) : Int) ((((limbs x).getD 0 0) + (((limbs x).getD 1 0) * 2 ^ 32) : Nat) : Int)) (I (by have := limbs_getD_lt x 0; have := limbs_getD_lt x 1; omega : ((limbs x).getD 0 0) + (((limbs x).getD 1 0) * 2 ^ 32) ≤ 18446744073709551615) (And.intro (by rw [(xw_y (by omega)).1]; exact two_limbs (by omega) : ((limbs x).getD 0 0) + (((limbs x).getD 1 0) * 2 ^ 32) = xw x) ((xw_y (by omega)).2.symm : true = xk x)))))) (fun (h6 : ¬ ((limbs x).length = 2)) => And.intro ((xw_n (by omega)).1.symm : 0 = xw x) ((xw_n (by omega)).2.symm : false = xk x)))))⟩)
abbrev xsmall_c : Ctr Tryz.prog := FI.c xsmall_k
abbrev xbits_i : FI := ⟨175, [.mag], [(.n 1099511627776)], fun _ => [], fun b z => (fun (x : Nat) => .c (.one (.dt (.nat .i64) (b0 b) (bl x)))) z⟩
theorem xbits_k : xbits_i.OK Tryz.prog := mkF hmix 25 Tryz.func175 rfl rfl (by decide) [] (fun _ => rfl) (fun _ => rfl) (fun _ _ => rfl) (fun (x : Nat) b hx hp => one_ok (bl_mag (Bnds.h1 hx)) rfl) (fun (x : Nat) hx hp => by
 have hx0 : lt2 x 1099511627776 := hx
 have hl0 : (limbs x).length ≤ 34359738369 := limbs_len_le (Nat.le_of_lt hx0)
 exact ⟨.cond (.nil) (.h 3 2 (.i .sub) (.h 4 3 (.i .sub) (.loop [.s 3 (.nat .i64) (.n 1099511627872), .s 4 (.nat .u32) (.n 4294967295)] (fun ((k, v) : Nat × Nat) => k + bl v = bl x) (fun ((k, v) : Nat × Nat) => v) (fun ((k, v) : Nat × Nat) => .nil)))), kcast (by kernel_rfl) (And.intro (fun (h1 : (limbs x).length = 0) => (by have := (nl0 (x := x)).1 (by omega); subst this; rfl : 0 = bl x)) (fun (h2 : ¬ ((limbs x).length = 0)) => have hpos := (show 0 < (limbs x).length by omega); have hBB := bits_bl hpos; I (by omega : 1 ≤ (limbs x).length) (I (by omega : 1 ≤ (limbs x).length) (I (by omega : ((limbs x).length) - 1 < (limbs x).length) (I (hBB : (32 * (((limbs x).length) - 1)) + bl ((limbs x).getD (((limbs x).length) - 1) 0) = bl x) (fun (k : Nat) (v : Nat) (hb3 : HB [.s 3 (.nat .i64) (.n 1099511627872), .s 4 (.nat .u32) (.n 4294967295)] (k, v)) (hC : k + bl v = bl x) => have hv6 := (show k ≤ 1099511627872 from hb3.1); have hv7 := (show v ≤ 4294967295 from hb3.2); have hbx := (bl_lb hx0 : bl x ≤ 1099511627776); And.intro (fun (h4 : v ≠ 0) => I (show (k + 1) ≤ 1099511627872 by omega : Bnd (.nat .i64) (.n 1099511627872) (k + 1)) (And.intro (by have := bl_half (v := v) (by omega); omega : (k + 1) + bl (v / 2 ^ 1) = bl x) (by omega : v / 2 ^ 1 < v))) (fun (h5 : ¬ (v ≠ 0)) => (by have e : v = 0 := (by omega); rw [e, bl_zero] at hC; omega : k = bl x))))))))⟩)
abbrev xbits_c : Ctr Tryz.prog := FI.c xbits_k
end Go.Proofs.YtcjgaaibflcdiaaGreat.Sx

namespace Go.Proofs.YtcjgaaibflcdiaaGreat.Sx
open Go Go.Proofs
set_option linter.unusedVariables false
set_option linter.unusedSimpArgs false
set_option maxRecDepth 20000
set_option maxHeartbeats 4000000
abbrev xadd_i : FI := ⟨112, [.mag, .mag], [(.n 1099511627776), (.n 1099511627776)], fun _ => [], fun b z => (fun (x : Nat) (y : Nat) => .c (.one (.dt .mag (.n (max (b0 b).nb (b1 b).nb + 1)) (x + y)))) z.1 z.2⟩
theorem xadd_k : xadd_i.OK Tryz.prog := mkF hmix 54 Tryz.func112 rfl rfl (by decide) [] (fun _ => rfl) (fun _ => rfl) (fun _ _ => rfl) (fun (x : Nat) (y : Nat) b hx hp => one_ok (lt2_add (Bnds.h2 hx).1.mag (Bnds.h2 hx).2.mag) rfl) (fun (x : Nat) (y : Nat) hx hp => by
 have hx0 : lt2 x 1099511627776 := hx.1
 have hl0 : (limbs x).length ≤ 34359738369 := limbs_len_le (Nat.le_of_lt hx0)
 have hx1 : lt2 y 1099511627776 := hx.2
 have hl1 : (limbs y).length ≤ 34359738369 := limbs_len_le (Nat.le_of_lt hx1)
 exact ⟨.loop [.s 7 (.nat .i64) (.n 34359738371), .s 6 (.nat .u64) (.n 1), .g 5 90005 (.nat .u32) (.n 4294967295) 34359738371] (fun ((i, c, out) : Nat × Nat × List Nat) => AddX x y i c out) (fun ((i, c, out) : Nat × Nat × List Nat) => max (limbs x).length (limbs y).length + 1 - i) (fun ((i, c, out) : Nat × Nat × List Nat) => .cond (.cond (.cond (.h 10 3 (.mk (.im (.nat .u32) (.n 4294967295))) (.nil)) (.h 10 3 (.mk (.im (.nat .u32) (.n 4294967295))) (.nil))) (.cond (.h 10 3 (.mk (.im (.nat .u32) (.n 4294967295))) (.nil)) (.h 10 3 (.mk (.im (.nat .u32) (.n 4294967295))) (.nil)))) (.cond (.cond (.cond (.h 10 3 (.mk (.im (.nat .u32) (.n 4294967295))) (.nil)) (.h 10 3 (.mk (.im (.nat .u32) (.n 4294967295))) (.nil))) (.cond (.h 10 3 (.mk (.im (.nat .u32) (.n 4294967295))) (.nil)) (.h 10 3 (.mk (.im (.nat .u32) (.n 4294967295))) (.nil)))) (.cond (.cond (.cond (.h 10 3 (.mk (.im (.nat .u32) (.n 4294967295))) (.nil)) (.h 10 3 (.mk (.im (.nat .u32) (.n 4294967295))) (.nil))) (.cond (.h 10 3 (.mk (.im (.nat .u32) (.n 4294967295))) (.nil)) (.h 10 3 (.mk (.im (.nat .u32) (.n 4294967295))) (.nil)))) (.pre 12 (.frz 90005 true [5]) (.h 12 1 (.mag (x + y) 1099511627777) (.nil)))))), kcast (by kernel_rfl) (I (rfl : 0 = ([] : List Nat).length) (I (AddX.start x y : AddX x y 0 0 ([] : List Nat)) (fun (i : Nat) (c : Nat) (out : List Nat) (hb1 : HB [.s 7 (.nat .i64) (.n 34359738371), .s 6 (.nat .u64) (.n 1), .g 5 90005 (.nat .u32) (.n 4294967295) 34359738371] (i, c, out)) (hI : AddX x y i c out) => have hv26 := (show i ≤ 34359738371 from hb1.1); have hv27 := (show c ≤ 1 from hb1.2.1); have hv28 := (show out.length ≤ 34359738371 from hb1.2.2.1); have hIl := hI.hl; have hIi := hI.hi; have hIc := hI.hc; have hg1 := limbs_getD_lt x i; have hg2 := limbs_getD_lt y i; And.intro (fun (h2 : i < (limbs x).length) => And.intro (fun (h3 : i < (limbs x).length) => I (by omega : i < (limbs x).length) (And.intro (fun (h4 : i < (limbs y).length) => I (by omega : i < (limbs y).length) (I (by omega : out.length = out.length) (I (show (i + 1) ≤ 34359738371 by omega : Bnd (.nat .i64) (.n 34359738371) (i + 1)) (I (by (try simp only [List.length_append, List.length_cons, List.length_nil]) <;> omega : out.length + [((c + ((limbs x).getD i 0)) + ((limbs y).getD i 0)) % 4294967296].length = (out ++ [((c + ((limbs x).getD i 0)) + ((limbs y).getD i 0)) % 4294967296]).length) (I (by (try simp only [List.length_append, List.length_cons, List.length_nil]) <;> omega : out.length + [((c + ((limbs x).getD i 0)) + ((limbs y).getD i 0)) % 4294967296].length ≤ 34359738371) (And.intro (hI.step2 (by omega) (by first | rfl | (have hq1 := @getD_out (limbs x) i; have hq2 := @getD_out (limbs y) i; omega)) (by omega) : AddX x y (i + 1) (((c + ((limbs x).getD i 0)) + ((limbs y).getD i 0)) / 2 ^ 32) (out ++ [((c + ((limbs x).getD i 0)) + ((limbs y).getD i 0)) % 4294967296])) (by have := hI.le (by omega); omega : max (limbs x).length (limbs y).length + 1 - (i + 1) < max (limbs x).length (limbs y).length + 1 - i))))))) (fun (h5 : ¬ (i < (limbs y).length)) => I (by omega : out.length = out.length) (I (show (i + 1) ≤ 34359738371 by omega : Bnd (.nat .i64) (.n 34359738371) (i + 1)) (I (by (try simp only [List.length_append, List.length_cons, List.length_nil]) <;> omega : out.length + [(c + ((limbs x).getD i 0)) % 4294967296].length = (out ++ [(c + ((limbs x).getD i 0)) % 4294967296]).length) (I (by (try simp only [List.length_append, List.length_cons, List.length_nil]) <;> omega : out.length + [(c + ((limbs x).getD i 0)) % 4294967296].length ≤ 34359738371) (And.intro (hI.step2 (by omega) (by first | rfl | (have hq1 := @getD_out (limbs x) i; have hq2 := @getD_out (limbs y) i; omega)) (by omega) : AddX x y (i + 1) ((c + ((limbs x).getD i 0)) / 2 ^ 32) (out ++ [(c + ((limbs x).getD i 0)) % 4294967296])) (by have := hI.le (by omega); omega : max (limbs x).length (limbs y).length + 1 - (i + 1) < max (limbs x).length (limbs y).length + 1 - i)))))))) (fun (h6 : ¬ (i < (limbs x).length)) => And.intro (fun (h7 : i < (limbs y).length) => I (by omega : i < (limbs y).length) (I (by omega : out.length = out.length) (I (show (i + 1) ≤ 34359738371 by omega : Bnd (.nat .i64) (.n 34359738371) (i + 1)) (I (by (try simp only [List.length_append, List.length_cons, List.length_nil]) <;> omega : out.length + [(c + ((limbs y).getD i 0)) % 4294967296].length = (out ++ [(c + ((limbs y).getD i 0)) % 4294967296]).length) (I (by (try simp only [List.length_append, List.length_cons, List.length_nil]) <;> omega : out.length + [(c + ((limbs y).getD i 0)) % 4294967296].length ≤ 34359738371) (And.intro (hI.step2 (by omega) (by first | rfl | (have hq1 := @getD_out (limbs x) i; have hq2 := @getD_out (limbs y) i; omega)) (by omega) : AddX x y (i + 1) ((c + ((limbs y).getD i 0)) / 2 ^ 32) (out ++ [(c + ((limbs y).getD i 0)) % 4294967296])) (by have := hI.le (by omega); omega : max (limbs x).length (limbs y).length + 1 - (i + 1) < max (limbs x).length (limbs y).length + 1 - i))))))) (fun (h8 : ¬ (i < (limbs y).length)) => I (by omega : out.length = out.length) (I (show (i + 1) ≤ 34359738371 by omega : Bnd (.nat .i64) (.n 34359738371) (i + 1)) (I (by (try simp only [List.length_append, List.length_cons, List.length_nil]) <;> omega : out.length + [c].length = (out ++ [c]).length) (I (by (try simp only [List.length_append, List.length_cons, List.length_nil]) <;> omega : out.length + [c].length ≤ 34359738371) (And.intro (hI.step2 (by omega) (by first | rfl | (have hq1 := @getD_out (limbs x) i; have hq2 := @getD_out (limbs y) i; omega)) (by omega) : AddX x y (i + 1) (c / 2 ^ 32) (out ++ [c])) (by have := hI.le (by omega); omega : max (limbs x).length (limbs y).length + 1 - (i + 1) < max (limbs x).length (limbs y).length + 1 - i)))))))) (fun (h9 : ¬ (i < (limbs x).length)) => And.intro (fun (h10 : i < (limbs y).length) => And.intro (fun (h11 : i < (limbs x).length) => I (by omega : i < (limbs x).length) (And.intro (fun (h12 : i < (limbs y).length) => I (by omega : i < (limbs y).length) (I (by omega : out.length = out.length) (I (show (i + 1) ≤ 34359738371 by omega : Bnd (.nat .i64) (.n 34359738371) (i + 1)) (I (by (try simp only [List.length_append, List.length_cons, List.length_nil]) <;> omega : out.length + [((c + ((limbs x).getD i 0)) + ((limbs y).getD i 0)) % 4294967296].length = (out ++ [((c + ((limbs x).getD i 0)) + ((limbs y).getD i 0)) % 4294967296]).length) (I (by (try simp only [List.length_append, List.length_cons, List.length_nil]) <;> omega : out.length + [((c + ((limbs x).getD i 0)) + ((limbs y).getD i 0)) % 4294967296].length ≤ 34359738371) (And.intro (hI.step2 (by omega) (by first | rfl | (have hq1 := @getD_out (limbs x) i; have hq2 := @getD_out (limbs y) i; omega)) (by omega) : AddX x y (i + 1) (((c + ((limbs x).getD i 0)) + ((limbs y).getD i 0)) / 2 ^ 32) (out ++ [((c + ((limbs x).getD i 0)) + ((limbs y).getD i 0)) % 4294967296])) (by have := hI.le (by omega); omega : max (limbs x).length (limbs y).length + 1 - (i + 1) < max (limbs x).length (limbs y).length + 1 - i))))))) (fun (h13 : ¬ (i < (limbs y).length)) => I (by omega : out.length = out.length) (I (show (i + 1) ≤ 34359738371 by omega : Bnd (.nat .i64) (.n 34359738371) (i + 1)) (I (by (try simp only [List.length_append, List.length_cons, List.length_nil]) <;> omega : out.length + [(c + ((limbs x).getD i 0)) % 4294967296].length = (out ++ [(c + ((limbs x).getD i 0)) % 4294967296]).length) (I (by (try simp only [List.length_append, List.length_cons, List.length_nil]) <;> omega : out.length + [(c + ((limbs x).getD i 0)) % 4294967296].length ≤ 34359738371) (And.intro (hI.step2 (by omega) (by first | rfl | (have hq1 := @getD_out (limbs x) i; have hq2 := @getD_out (limbs y) i; omega)) (by omega) : AddX x y (i + 1) ((c + ((limbs x).getD i 0)) / 2 ^ 32) (out ++ [(c + ((limbs x).getD i 0)) % 4294967296])) (by have := hI.le (by omega); omega : max (limbs x).length (limbs y).length + 1 - (i + 1) < max (limbs x).length (limbs y).length + 1 - i)))))))) (fun (h14 : ¬ (i < (limbs x).length)) => And.intro (fun (h15 : i < (limbs y).length) => I (by omega : i < (limbs y).length) (I (by omega : out.length = out.length) (I (show (i + 1) ≤ 34359738371 by omega : Bnd (.nat .i64) (.n 34359738371) (i + 1)) (I (by (try simp only [List.length_append, List.length_cons, List.length_nil]) <;> omega : out.length + [(c + ((limbs y).getD i 0)) % 4294967296].length = (out ++ [(c + ((limbs y).getD i 0)) % 4294967296]).length) (I (by (try simp only [List.length_append, List.length_cons, List.length_nil]) <;> omega : out.length + [(c + ((limbs y).getD i 0)) % 4294967296].length ≤ 34359738371) (And.intro (hI.step2 (by omega) (by first | rfl | (have hq1 := @getD_out (limbs x) i; have hq2 := @getD_out (limbs y) i; omega)) (by omega) : AddX x y (i + 1) ((c + ((limbs y).getD i 0)) / 2 ^ 32) (out ++ [(c + ((limbs y).getD i 0)) % 4294967296])) (by have := hI.le (by omega); omega : max (limbs x).length (limbs y).length + 1 - (i + 1) < max (limbs x).length (limbs y).length + 1 - i))))))) (fun (h16 : ¬ (i < (limbs y).length)) => I (by omega : out.length = out.length) (I (show (i + 1) ≤ 34359738371 by omega : Bnd (.nat .i64) (.n 34359738371) (i + 1)) (I (by (try simp only [List.length_append, List.length_cons, List.length_nil]) <;> omega : out.length + [c].length = (out ++ [c]).length) (I (by (try simp only [List.length_append, List.length_cons, List.length_nil]) <;> omega : out.length + [c].length ≤ 34359738371) (And.intro (hI.step2 (by omega) (by first | rfl | (have hq1 := @getD_out (limbs x) i; have hq2 := @getD_out (limbs y) i; omega)) (by omega) : AddX x y (i + 1) (c / 2 ^ 32) (out ++ [c])) (by have := hI.le (by omega); omega : max (limbs x).length (limbs y).length + 1 - (i + 1) < max (limbs x).length (limbs y).length + 1 - i)))))))) (fun (h17 : ¬ (i < (limbs y).length)) => And.intro (fun (h18 : c ≠ 0) => And.intro (fun (h19 : i < (limbs x).length) => I (by omega : i < (limbs x).length) (And.intro (fun (h20 : i < (limbs y).length) => I (by omega : i < (limbs y).length) (I (by omega : out.length = out.length) (I (show (i + 1) ≤ 34359738371 by omega : Bnd (.nat .i64) (.n 34359738371) (i + 1)) (I (by (try simp only [List.length_append, List.length_cons, List.length_nil]) <;> omega : out.length + [((c + ((limbs x).getD i 0)) + ((limbs y).getD i 0)) % 4294967296].length = (out ++ [((c + ((limbs x).getD i 0)) + ((limbs y).getD i 0)) % 4294967296]).length) (I (by (try simp only [List.length_append, List.length_cons, List.length_nil]) <;> omega : out.length + [((c + ((limbs x).getD i 0)) + ((limbs y).getD i 0)) % 4294967296].length ≤ 34359738371) (And.intro (hI.step2 (by omega) (by first | rfl | (have hq1 := @getD_out (limbs x) i; have hq2 := @getD_out (limbs y) i; omega)) (by omega) : AddX x y (i + 1) (((c + ((limbs x).getD i 0)) + ((limbs y).getD i 0)) / 2 ^ 32) (out ++ [((c + ((limbs x).getD i 0)) + ((limbs y).getD i 0)) % 4294967296])) (by have := hI.le (by omega); omega : max (limbs x).length (limbs y).length + 1 - (i + 1) < max (limbs x).length (limbs y).length + 1 - i))))))) (fun (h21 : ¬ (i < (limbs y).length)) => I (by omega : out.length = out.length) (I (show (i + 1) ≤ 34359738371 by omega : Bnd (.nat .i64) (.n 34359738371) (i + 1)) (I (by (try simp only [List.length_append, List.length_cons, List.length_nil]) <;> omega : out.length + [(c + ((limbs x).getD i 0)) % 4294967296].length = (out ++ [(c + ((limbs x).getD i 0)) % 4294967296]).length) (I (by (try simp only [List.length_append, List.length_cons, List.length_nil]) <;> omega : out.length + [(c + ((limbs x).getD i 0)) % 4294967296].length ≤ 34359738371) (And.intro (hI.step2 (by omega) (by first | rfl | (have hq1 := @getD_out (limbs x) i; have hq2 := @getD_out (limbs y) i; omega)) (by omega) : AddX x y (i + 1) ((c + ((limbs x).getD i 0)) / 2 ^ 32) (out ++ [(c + ((limbs x).getD i 0)) % 4294967296])) (by have := hI.le (by omega); omega : max (limbs x).length (limbs y).length + 1 - (i + 1) < max (limbs x).length (limbs y).length + 1 - i)))))))) (fun (h22 : ¬ (i < (limbs x).length)) => And.intro (fun (h23 : i < (limbs y).length) => I (by omega : i < (limbs y).length) (I (by omega : out.length = out.length) (I (show (i + 1) ≤ 34359738371 by omega : Bnd (.nat .i64) (.n 34359738371) (i + 1)) (I (by (try simp only [List.length_append, List.length_cons, List.length_nil]) <;> omega : out.length + [(c + ((limbs y).getD i 0)) % 4294967296].length = (out ++ [(c + ((limbs y).getD i 0)) % 4294967296]).length) (I (by (try simp only [List.length_append, List.length_cons, List.length_nil]) <;> omega : out.length + [(c + ((limbs y).getD i 0)) % 4294967296].length ≤ 34359738371) (And.intro (hI.step2 (by omega) (by first | rfl | (have hq1 := @getD_out (limbs x) i; have hq2 := @getD_out (limbs y) i; omega)) (by omega) : AddX x y (i + 1) ((c + ((limbs y).getD i 0)) / 2 ^ 32) (out ++ [(c + ((limbs y).getD i 0)) % 4294967296])) (by have := hI.le (by omega); omega : max (limbs x).length (limbs y).length + 1 - (i + 1) < max (limbs x).length (limbs y).length + 1 - i))))))) (fun (h24 : ¬ (i < (limbs y).length)) => I (by omega : out.length = out.length) (I (show (i + 1) ≤ 34359738371 by omega : Bnd (.nat .i64) (.n 34359738371) (i + 1)) (I (by (try simp only [List.length_append, List.length_cons, List.length_nil]) <;> omega : out.length + [c].length = (out ++ [c]).length) (I (by (try simp only [List.length_append, List.length_cons, List.length_nil]) <;> omega : out.length + [c].length ≤ 34359738371) (And.intro (hI.step2 (by omega) (by first | rfl | (have hq1 := @getD_out (limbs x) i; have hq2 := @getD_out (limbs y) i; omega)) (by omega) : AddX x y (i + 1) (c / 2 ^ 32) (out ++ [c])) (by have := hI.le (by omega); omega : max (limbs x).length (limbs y).length + 1 - (i + 1) < max (limbs x).length (limbs y).length + 1 - i)))))))) (fun (h25 : ¬ (c ≠ 0)) => I (by omega : out.length = out.length) (I (hI.fin (by omega) (by omega) (by omega) : out = limbs (x + y)) (I (lt2_mono (by decide) (lt2_add hx0 hx1) : lt2 (x + y) 1099511627777) ((Eq.refl (x + y)))))))))))⟩)
abbrev xadd_c : Ctr Tryz.prog := FI.c xadd_k
abbrev xshifted_i : FO := ⟨179, [.mag, (.nat .i64)], [(.n 1099511627776), (.n 17179869184)], fun _ => [], fun k b z => (fun (x : Nat) (j : Nat) => .c (.one (.gs k ((limbs (x * 4294967296 ^ j)).length) 1 (((b0 b).nb + 32 * (b1 b).nb) / 32 + 1)))) z.1 z.2, fun b z => (fun (x : Nat) (j : Nat) => .gro (.nat .u32) (.n 4294967295) (limbs (x * 4294967296 ^ j))) z.1 z.2⟩
theorem xshifted_k : xshifted_i.OK Tryz.prog := mkO hmix 12 11 Tryz.func179 rfl rfl (by decide) [] (fun _ => rfl) (fun _ _ _ => rfl) (fun _ _ => rfl) (fun _ _ _ => ⟨rfl, rfl⟩) (fun (x : Nat) (j : Nat) k b hx hp => ⟨one_ok (limbs_len_le (Nat.le_of_lt (lt2_shift (Bnds.h2 hx).1.mag (Bnds.h2 hx).2.nat))) rfl, fun u hu => Nat.le_of_lt_succ (limbs_lt _ u hu)⟩) (fun (x : Nat) (j : Nat) hx hp => by
 have hx0 : lt2 x 1099511627776 := hx.1
 have hl0 : (limbs x).length ≤ 34359738369 := limbs_len_le (Nat.le_of_lt hx0)
 have hx1 : j ≤ 17179869184 := hx.2
 exact bodyO.g (.cond (.nil) (.h 3 1 (.mk (.gro (.nat .u32) (.n 4294967295))) (.nil))) (kcast (by kernel_rfl) (And.intro (fun (h1 : (limbs x).length = 0) => And.intro (by rw [nl0.1 (show (limbs x).length = 0 by assumption), Nat.zero_mul]; rfl : ([] : List Nat) = limbs (x * 4294967296 ^ j)) ((by rw [nl0.1 (show (limbs x).length = 0 by assumption), Nat.zero_mul]; rfl : 0 = (limbs (x * 4294967296 ^ j)).length))) (fun (h2 : ¬ ((limbs x).length = 0)) => I (by omega : j = j) (I ((List.length_replicate ..).symm : j = (List.replicate j (0 : Nat)).length) (And.intro (shift_limbs (mt nl0.2 (by assumption)) : (List.replicate j (0 : Nat)) ++ (limbs x) = limbs (x * 4294967296 ^ j)) ((by rw [← shift_limbs (mt nl0.2 (by assumption))]; simp : j + (limbs x).length = (limbs (x * 4294967296 ^ j)).length))))))))
abbrev xshifted_R (k : Nat) (b : List Bd) (x : Nat) (j : Nat) : WV := .c (.one (.gs k ((limbs (x * 4294967296 ^ j)).length) 1 (((b0 b).nb + 32 * (b1 b).nb) / 32 + 1)))
abbrev xshifted_B (b : List Bd) (x : Nat) (j : Nat) : WB := .gro (.nat .u32) (.n 4294967295) (limbs (x * 4294967296 ^ j))
theorem xshifted_sig (d : Nat) (x : Nat) (j : Nat) (hx : Bnds [.mag, (.nat .i64)] [(.n 1099511627776), (.n 17179869184)] (x, j)) (hp : ∀ c0 ∈ ([] : List Prop), c0) : SigG Tryz.prog 179 (argsE [.mag, (.nat .i64)] (x, j)) [] (xshifted_R d [(.n 1099511627776), (.n 17179869184)] x j).exp [(d, some (xshifted_B [(.n 1099511627776), (.n 17179869184)] x j).exp)] := xshifted_k.sig d (x, j) hx hp
abbrev xshiftR (b : Bd) (x k : Nat) : WV := .c (.one (.dt .mag b (x * 4294967296 ^ k)))
theorem xshiftD_sig (x k : Nat) (hx : Bnds [.mag, .nat .i64] [.n 1099511627776, .n 17179869184] (x, k)) (b : Bd) : Sig Tryz.prog 179 (argsE [.mag, .nat .i64] (x, k)) (xshiftR b x k).exp := by
  have h := frzO (xshifted_sig 0 x k hx (by intro p hp; cases hp)) (by decide) rfl .u
  rw [magE (x * 4294967296 ^ k) .u b] at h; exact h
theorem argsE_iz (x : Nat) (z : Int) (h : 0 ≤ z) : argsE [.mag, .int .i64] (x, z) = argsE [.mag, .nat .i64] (x, z.toNat) := by
  obtain ⟨n, rfl⟩ := Int.eq_ofNat_of_zero_le h; rfl
def xshiftZ_c : Ctr Tryz.prog := ⟨179, [.mag, .int .i64], [.n 1099511627776, .n 17179869184], fun z => [0 ≤ z.2], fun b z => xshiftR (.n ((b0 b).nb + 32 * (b1 b).nb)) z.1 z.2.toNat,
  fun z hx hp => by
    have h0 : 0 ≤ z.2 := hp _ List.mem_cons_self
    have h := xshiftD_sig z.1 z.2.toNat ⟨hx.1, by have h2 : Int.natAbs z.2 ≤ 17179869184 := hx.2; show z.2.toNat ≤ _; omega⟩ (.n (1099511627776 + 32 * 17179869184))
    rw [← argsE_iz z.1 z.2 h0] at h; exact h,
  fun _ _ => rfl, fun b z hx hp => one_ok (lt2_shift (Bnds.h2 hx).1.mag (by have h2 := (Bnds.h2 hx).2.int; show z.2.toNat ≤ _; omega)) rfl⟩
end Go.Proofs.YtcjgaaibflcdiaaGreat.Sx

namespace Go.Proofs.YtcjgaaibflcdiaaGreat.Sx
open Go Go.Proofs
set_option linter.unusedVariables false
set_option linter.unusedSimpArgs false
set_option maxRecDepth 20000
set_option maxHeartbeats 4000000
abbrev xup_i : FI := ⟨178, [.mag, (.nat .i64)], [(.n 1030792151040), (.n 68719476736)], fun _ => [], fun b z => (fun (x : Nat) (s : Nat) => .c (.one (.dt .mag (.n ((b0 b).nb + (b1 b).nb)) (x * 2 ^ s)))) z.1 z.2⟩
theorem xup_k : xup_i.OK Tryz.prog := mkF hmix 40 Tryz.func178 rfl rfl (by decide) [] (fun _ => rfl) (fun _ => rfl) (fun _ _ => rfl) (fun (x : Nat) (s : Nat) b hx hp => one_ok (lt2_up (Bnds.h2 hx).1.mag (Bnds.h2 hx).2.nat) rfl) (fun (x : Nat) (s : Nat) hx hp => by
 have hx0 : lt2 x 1030792151040 := hx.1
 have hl0 : (limbs x).length ≤ 32212254721 := limbs_len_le (Nat.le_of_lt hx0)
 have hx1 : s ≤ 68719476736 := hx.2
 exact ⟨.h 1 2 (.mk (.gro (.nat .u32) (.n 4294967295))) (.loop [.s 7 (.nat .i64) (.n 32212254721), .s 6 (.nat .u64) (.n 4294967295), .g 5 90005 (.nat .u32) (.n 4294967295) 100931731457] (fun ((i, c, out) : Nat × Nat × List Nat) => UpX x s i c out) (fun ((i, c, out) : Nat × Nat × List Nat) => (limbs x).length - i) (fun ((i, c, out) : Nat × Nat × List Nat) => .cond (.h 6 8 (.i (.n (((limbs x).getD i 0) * 2 ^ (s % 32)) 18446744073709551615)) (.h 6 9 (.i (.n (c + (((limbs x).getD i 0) * 2 ^ (s % 32))) 18446744073709551615)) (.h 7 3 (.mk (.im (.nat .u32) (.n 4294967295))) (.nil)))) (.h 9 3 (.mk (.im (.nat .u32) (.n 4294967295))) (.pre 1000005 (.frz 38 true [38]) (.h 9 5 (.c xtrim_d) (.nil)))))), kcast (by kernel_rfl) (I (by omega : s / 32 = s / 32) (I (by simp <;> omega : s / 32 = (List.replicate (s / 32) (0 : Nat)).length) (I (UpX.start x s : UpX x s 0 0 (List.replicate (s / 32) (0 : Nat))) (fun (i : Nat) (c : Nat) (out : List Nat) (hb1 : HB [.s 7 (.nat .i64) (.n 32212254721), .s 6 (.nat .u64) (.n 4294967295), .g 5 90005 (.nat .u32) (.n 4294967295) 100931731457] (i, c, out)) (hI : UpX x s i c out) => have hv4 := (show i ≤ 32212254721 from hb1.1); have hv5 := (show c ≤ 4294967295 from hb1.2.1); have hv6 := (show out.length ≤ 100931731457 from hb1.2.2.1); have hIl := hI.hl; have hIi := hI.hi; have hIc := hI.hc; have hg1 := limbs_getD_lt x i; have hbd := up_or hI; And.intro (fun (h2 : i < (limbs x).length) => I (by omega : i < (limbs x).length) (I (bi_shl _ _ (by omega) (shl_bound hg1 (by omega)) : BinIs .shl .u64 (((limbs x).getD i 0 : Nat) : Int) ((s % 32 : Nat) : Int) ((((limbs x).getD i 0) * 2 ^ (s % 32) : Nat) : Int)) (I (Nat.le_of_lt_succ (shl_bound hg1 (by omega)) : ((limbs x).getD i 0) * 2 ^ (s % 32) ≤ 18446744073709551615) (I (bi_or' _ _ rfl hIc hbd : BinIs .or .u64 (c : Int) ((((limbs x).getD i 0) * 2 ^ (s % 32) : Nat) : Int) ((c + (((limbs x).getD i 0) * 2 ^ (s % 32)) : Nat) : Int)) (I (Nat.le_of_lt_succ hbd : c + (((limbs x).getD i 0) * 2 ^ (s % 32)) ≤ 18446744073709551615) (I (by omega : out.length = out.length) (I (show (i + 1) ≤ 32212254721 by omega : Bnd (.nat .i64) (.n 32212254721) (i + 1)) (I (by (try simp only [List.length_append, List.length_cons, List.length_nil]) <;> omega : out.length + [(c + (((limbs x).getD i 0) * 2 ^ (s % 32))) % 4294967296].length = (out ++ [(c + (((limbs x).getD i 0) * 2 ^ (s % 32))) % 4294967296]).length) (I (by (try simp only [List.length_append, List.length_cons, List.length_nil]) <;> omega : out.length + [(c + (((limbs x).getD i 0) * 2 ^ (s % 32))) % 4294967296].length ≤ 100931731457) (And.intro (hI.step (by omega) rfl : UpX x s (i + 1) ((c + (((limbs x).getD i 0) * 2 ^ (s % 32))) / 2 ^ 32) (out ++ [(c + (((limbs x).getD i 0) * 2 ^ (s % 32))) % 4294967296])) (by omega : (limbs x).length - (i + 1) < (limbs x).length - i))))))))))) (fun (h3 : ¬ (i < (limbs x).length)) => have hF := hI.fin (by omega); I (by omega : out.length = out.length) (I (by (try simp only [List.length_append, List.length_cons, List.length_nil]) <;> omega : out.length + [c].length = (out ++ [c]).length) (I (hF.2 : ∀ u ∈ out ++ [c], u < 4294967296) ((hF.1 : valL (out ++ [c]) = x * 2 ^ s)))))))))⟩)
abbrev xup_c : Ctr Tryz.prog := FI.c xup_k
abbrev xdown_i : FI := ⟨181, [.mag, (.nat .i64)], [(.n 1099511627776), (.n 1099511627776)], fun _ => [], fun b z => (fun (x : Nat) (s : Nat) => .c (.one (.dt .mag (.n ((b0 b).nb)) (x / 2 ^ s)))) z.1 z.2⟩
theorem xdown_k : xdown_i.OK Tryz.prog := mkF hmix 55 Tryz.func181 rfl rfl (by decide) [] (fun _ => rfl) (fun _ => rfl) (fun _ _ => rfl) (fun (x : Nat) (s : Nat) b hx hp => one_ok ((Bnds.h2 hx).1.magLe (Nat.div_le_self _ _)).mag rfl) (fun (x : Nat) (s : Nat) hx hp => by
 have hx0 : lt2 x 1099511627776 := hx.1
 have hl0 : (limbs x).length ≤ 34359738369 := limbs_len_le (Nat.le_of_lt hx0)
 have hx1 : s ≤ 1099511627776 := hx.2
 exact ⟨.cond (.nil) ((fun (w : Nat) => .h 3 3 (.mag w 1099511627776) (.h 4 2 (.mk (.arr (.nat .u32) (.n 4294967295))) (.loop [.s 6 (.nat .i64) (.n 34359738369), .a 19 (.nat .u32) (.n 4294967295)] (fun ((i, out) : Nat × List Nat) => DownX w (s % 32) i out) (fun ((i, out) : Nat × List Nat) => (limbs w).length - i) (fun ((i, out) : Nat × List Nat) => .cond (.cond (.h 10 8 (.i (.n (((limbs w).getD i 0) + (((limbs w).getD (i + 1) 0) * 2 ^ 32)) 18446744073709551615)) (.h 11 5 (.i (.n ((((limbs w).getD i 0) + (((limbs w).getD (i + 1) 0) * 2 ^ 32)) / 2 ^ (s % 32)) 18446744073709551615)) (.nil))) (.h 11 5 (.i (.n (((limbs w).getD i 0) / 2 ^ (s % 32)) 18446744073709551615)) (.nil))) (.pre 12 (.frz 19 true [5]) (.h 12 1 (.c xtrim_d) (.nil))))))) (x / 4294967296 ^ (s / 32))), kcast (by kernel_rfl) (And.intro (fun (h1 : (limbs x).length ≤ s / 32) => (down_none (by omega) : 0 = x / 2 ^ s)) (fun (h2 : ¬ ((limbs x).length ≤ s / 32)) => (fun (w : Nat) (hw : w = x / 4294967296 ^ (s / 32)) => I (by omega : s / 32 ≤ (limbs x).length) (I (by rw [hw]; exact drop_limbs _ _ : (limbs x).drop (s / 32) = limbs w) (I (by rw [hw]; exact lt2_le hx0 (Nat.div_le_self _ _) : lt2 w 1099511627776) (have hlw := (limbs_len_le (Nat.le_of_lt (show lt2 w 1099511627776 by rw [hw]; exact lt2_le hx0 (Nat.div_le_self _ _))) : (limbs w).length ≤ 34359738369); I (by omega : (limbs w).length = (limbs w).length) (I (DownX.start w (s % 32) : DownX w (s % 32) 0 (List.replicate ((limbs w).length) (0 : Nat))) (fun (i : Nat) (out : List Nat) (hb3 : HB [.s 6 (.nat .i64) (.n 34359738369), .a 19 (.nat .u32) (.n 4294967295)] (i, out)) (hI : DownX w (s % 32) i out) => have hv8 := (show i ≤ 34359738369 from hb3.1); have hv9 := (show ∀ u ∈ out, u ≤ 4294967295 from hb3.2); have hIl := hI.hl; have hIi := hI.hi; have hg1 := limbs_getD_lt w i; have hg2 := limbs_getD_lt w (i + 1); And.intro (fun (h4 : i < (limbs w).length) => I (by omega : i < (limbs w).length) (And.intro (fun (h5 : i + 1 < (limbs w).length) => I (by omega : i + 1 < (limbs w).length) (I (bi_or' _ 32 rfl hg1 (by omega) : BinIs .or .u64 (((limbs w).getD i 0 : Nat) : Int) ((((limbs w).getD (i + 1) 0) * 2 ^ 32 : Nat) : Int) ((((limbs w).getD i 0) + (((limbs w).getD (i + 1) 0) * 2 ^ 32) : Nat) : Int)) (I (by omega : ((limbs w).getD i 0) + (((limbs w).getD (i + 1) 0) * 2 ^ 32) ≤ 18446744073709551615) (I (bi_shr _ _ (by simp [IntKind.bits]; omega) : BinIs .shr .u64 ((((limbs w).getD i 0) + (((limbs w).getD (i + 1) 0) * 2 ^ 32) : Nat) : Int) ((s % 32 : Nat) : Int) (((((limbs w).getD i 0) + (((limbs w).getD (i + 1) 0) * 2 ^ 32)) / 2 ^ (s % 32) : Nat) : Int)) (I (Nat.le_trans (Nat.div_le_self _ _) (by omega) : (((limbs w).getD i 0) + (((limbs w).getD (i + 1) 0) * 2 ^ 32)) / 2 ^ (s % 32) ≤ 18446744073709551615) (I (by omega : i < (limbs w).length) (I (by omega : i < out.length) (I (show (i + 1) ≤ 34359738369 by omega : Bnd (.nat .i64) (.n 34359738369) (i + 1)) (And.intro (hI.step (by omega) (by omega) (by first | rfl | (have hq1 := @getD_out (limbs w) (i + 1); omega)) : DownX w (s % 32) (i + 1) (out.set i (((((limbs w).getD i 0) + (((limbs w).getD (i + 1) 0) * 2 ^ 32)) / 2 ^ (s % 32)) % 4294967296))) (by omega : (limbs w).length - (i + 1) < (limbs w).length - i)))))))))) (fun (h6 : ¬ (i + 1 < (limbs w).length)) => I (bi_shr _ _ (by simp [IntKind.bits]; omega) : BinIs .shr .u64 (((limbs w).getD i 0 : Nat) : Int) ((s % 32 : Nat) : Int) ((((limbs w).getD i 0) / 2 ^ (s % 32) : Nat) : Int)) (I (Nat.le_trans (Nat.div_le_self _ _) (by omega) : ((limbs w).getD i 0) / 2 ^ (s % 32) ≤ 18446744073709551615) (I (by omega : i < (limbs w).length) (I (by omega : i < out.length) (I (show (i + 1) ≤ 34359738369 by omega : Bnd (.nat .i64) (.n 34359738369) (i + 1)) (And.intro (hI.step (by omega) (by omega) (by first | rfl | (have hq1 := @getD_out (limbs w) (i + 1); omega)) : DownX w (s % 32) (i + 1) (out.set i ((((limbs w).getD i 0) / 2 ^ (s % 32)) % 4294967296))) (by omega : (limbs w).length - (i + 1) < (limbs w).length - i))))))))) (fun (h7 : ¬ (i < (limbs w).length)) => I (by omega : (limbs w).length = out.length) (have hF := hI.fin (by omega); I (hI.hu : ∀ u ∈ out, u < 4294967296) ((by rw [hF, hw]; exact down_end x s : valL out = x / 2 ^ s)))))))))) (x / 4294967296 ^ (s / 32)) rfl))⟩)
abbrev xdown_c : Ctr Tryz.prog := FI.c xdown_k
end Go.Proofs.YtcjgaaibflcdiaaGreat.Sx

namespace Go.Proofs.YtcjgaaibflcdiaaGreat.Sx
open Go Go.Proofs
set_option linter.unusedVariables false
set_option linter.unusedSimpArgs false
set_option maxRecDepth 20000
set_option maxHeartbeats 4000000
abbrev xdiv_i : FI := ⟨131, [.mag, .mag], [(.n 137438953536), (.n 137438953536)], fun z => (fun (x : Nat) (y : Nat) => [0 < y]) z.1 z.2, fun b z => (fun (x : Nat) (y : Nat) => .tup [.one (.dt .mag (b0 b) (x / y)), .one (.dt .mag (b1 b) (x % y)), .one (.kn .i64 0)]) z.1 z.2⟩
theorem xdiv_k : xdiv_i.OK Tryz.prog := mkF hmix 163 Tryz.func131 rfl rfl (by decide) [(66, .c xcmp_c), (129, .c xtrim_m), (130, .c xof_c), (170, .c xminus_c), (174, .c xsmall_c), (175, .c xbits_c), (177, .c xbylimb_c), (178, .c xup_c), (180, .c xtimes_c), (181, .c xdown_c)] (fun _ => rfl) (fun _ => rfl) (fun _ _ => rfl) (fun (x : Nat) (y : Nat) b hx hp => tup_cons (one_ok ((Bnds.h2 hx).1.magLe (Nat.div_le_self _ _)) rfl) (tup_cons (one_ok ((Bnds.h2 hx).2.magLe (Nat.le_of_lt (Nat.mod_lt _ (hp _ (List.mem_cons_self))))) rfl) (tup_cons kn_ok tup_nil))) (fun (x : Nat) (y : Nat) hx hp => by
 have hx0 : lt2 x 137438953536 := hx.1
 have hl0 : (limbs x).length ≤ 4294967299 := limbs_len_le (Nat.le_of_lt hx0)
 have hx1 : lt2 y 137438953536 := hx.2
 have hl1 : (limbs y).length ≤ 4294967299 := limbs_len_le (Nat.le_of_lt hx1)
 have hp0 : 0 < y := hp _ (List.mem_cons_self)
 have hyp := mt (nl0 (x := y)).1 (show ¬ y = 0 by omega)
 exact ⟨.cond (.dead) (.cond (.nil) (.cond (.nil) (.cond (.nil) (.h 12 3 (.i .sub) (.h 12 4 (.mag (y / 4294967296 ^ ((limbs y).length - 1)) 32) (.h 12 6 (.i .sub) ((fun (s : Nat) => .h 15 3 (.i .sub) ((fun (L : Nat) => .h 15 5 (.mk (.arr (.nat .u32) (.n 4294967295))) (.loop [.s 15 (.int .i64) (.n 17179869184), .s 5 .mag (.n 137438953568), .a 82 (.nat .u32) (.n 4294967295)] (fun ((z, r, ql) : Int × Nat × List Nat) => DX (x * 2 ^ s) (y * 2 ^ s) L z ql r) (fun ((z, r, ql) : Int × Nat × List Nat) => (z + 1).toNat) (fun ((z, r, ql) : Int × Nat × List Nat) => .cond (.cond (.h 21 4 (.ix (z.toNat + (limbs (y * 2 ^ s)).length)) (.cond (.h 23 7 (.ix (z.toNat + (limbs (y * 2 ^ s)).length - 1)) (.h 23 10 (.i (.n ((((limbs r).getD (z.toNat + (limbs (y * 2 ^ s)).length) 0) * 2 ^ 32) + ((limbs r).getD (z.toNat + (limbs (y * 2 ^ s)).length - 1) 0)) 18446744073709551615)) (.h 25 3 (.i .sub) (.h 26 5 (.c xshiftZ_c) (.loop [.s 17 (.nat .u64) (.n 4294967295), .s 18 .mag (.n 1099511627776)] (fun ((d, p) : Nat × Nat) => EX (y * 2 ^ s) z.toNat r d p) (fun ((d, p) : Nat × Nat) => d) (fun ((d, p) : Nat × Nat) => .cond (.h 28 1 (.i .sub) (.h 29 3 (.c xshiftZ_c) (.nil))) (.h 30 4 (.ix z.toNat) (.nil)))))))) (.h 25 3 (.i .sub) (.h 26 5 (.c xshiftZ_c) (.loop [.s 17 (.nat .u64) (.n 4294967295), .s 18 .mag (.n 1099511627776)] (fun ((d, p) : Nat × Nat) => EX (y * 2 ^ s) z.toNat r d p) (fun ((d, p) : Nat × Nat) => d) (fun ((d, p) : Nat × Nat) => .cond (.h 28 1 (.i .sub) (.h 29 3 (.c xshiftZ_c) (.nil))) (.h 30 4 (.ix z.toNat) (.nil)))))))) (.cond (.h 23 7 (.ix (z.toNat + (limbs (y * 2 ^ s)).length - 1)) (.h 23 10 (.i (.n (0 + ((limbs r).getD (z.toNat + (limbs (y * 2 ^ s)).length - 1) 0)) 18446744073709551615)) (.h 25 3 (.i .sub) (.h 26 5 (.c xshiftZ_c) (.loop [.s 17 (.nat .u64) (.n 4294967295), .s 18 .mag (.n 1099511627776)] (fun ((d, p) : Nat × Nat) => EX (y * 2 ^ s) z.toNat r d p) (fun ((d, p) : Nat × Nat) => d) (fun ((d, p) : Nat × Nat) => .cond (.h 28 1 (.i .sub) (.h 29 3 (.c xshiftZ_c) (.nil))) (.h 30 4 (.ix z.toNat) (.nil)))))))) (.h 25 3 (.i .sub) (.h 26 5 (.c xshiftZ_c) (.loop [.s 17 (.nat .u64) (.n 4294967295), .s 18 .mag (.n 1099511627776)] (fun ((d, p) : Nat × Nat) => EX (y * 2 ^ s) z.toNat r d p) (fun ((d, p) : Nat × Nat) => d) (fun ((d, p) : Nat × Nat) => .cond (.h 28 1 (.i .sub) (.h 29 3 (.c xshiftZ_c) (.nil))) (.h 30 4 (.ix z.toNat) (.nil)))))))) (.pre 32 (.frz 82 true [4]) (.h 32 1 (.c xtrim_d) (.nil)))))) ((((limbs (x * 2 ^ s)).length) - ((limbs (y * 2 ^ s)).length)) + 1))) (32 - (bl (y / 4294967296 ^ ((limbs y).length - 1))))))))))), kcast (by kernel_rfl) (And.intro (fun (h1 : (limbs y).length = 0) => (absurd (nl0.1 h1) (by omega) : False)) (fun (h2 : ¬ ((limbs y).length = 0)) => And.intro (fun (h3 : cmpN x y < 0) => And.intro ((Nat.div_eq_of_lt (cmp_lt0.1 (by omega))).symm : 0 = x / y) ((Nat.mod_eq_of_lt (cmp_lt0.1 (by omega))).symm : x = x % y)) (fun (h4 : ¬ (cmpN x y < 0)) => have hyx := (show y ≤ x from Nat.le_of_not_lt (mt cmp_lt0.2 (by assumption))); have hly := nl_mono' hyx; And.intro (fun (h5 : xk x = true) => have hlx := (show (limbs x).length ≤ 2 from of_decide_eq_true (by assumption)); have hxx := (xw_y hlx).1; have hxy := (xw_y (x := y) (by omega)).1; I (by omega : 0 < xw y) (I (by omega : 0 < xw y) (And.intro (by rw [(xw_y (x := x) (by assumption)).1, (xw_y (x := y) (by omega)).1] : (xw x) / (xw y) = x / y) (by rw [(xw_y (x := x) (by assumption)).1, (xw_y (x := y) (by omega)).1] : (xw x) % (xw y) = x % y)))) (fun (h6 : ¬ (xk x = true)) => And.intro (fun (h7 : (limbs y).length = 1) => have hy1 := (show (limbs y).getD 0 0 = y from limb0 (by omega)); I (by omega : 0 < (limbs y).length) (I (by omega : 0 < (limbs y).getD 0 0) (And.intro (by rw [hy1] : x / ((limbs y).getD 0 0) = x / y) (by rw [hy1] : x % ((limbs y).getD 0 0) = x % y)))) (fun (h8 : ¬ ((limbs y).length = 1)) => have hb32 := (bl_lb lt2_top : bl (y / 4294967296 ^ ((limbs y).length - 1)) ≤ 32); I (by omega : 1 ≤ (limbs y).length) (I (by omega : ((limbs y).length) - 1 ≤ (limbs y).length) (I (drop_limbs _ _ : (limbs y).drop (((limbs y).length) - 1) = limbs (y / 4294967296 ^ ((limbs y).length - 1))) (I (lt2_top : lt2 (y / 4294967296 ^ ((limbs y).length - 1)) 32) (I (bl_lb lt2_top : bl (y / 4294967296 ^ ((limbs y).length - 1)) ≤ 32) ((fun (s : Nat) (hs : s = 32 - (bl (y / 4294967296 ^ ((limbs y).length - 1)))) => have hs32 := (show s ≤ 32 by omega); have hV0 := (Nat.mul_pos hp0 (Nat.pow_pos (by omega)) : 0 < y * 2 ^ s); have hVA := (nl_mono' (Nat.mul_le_mul_right _ hyx) : (limbs (y * 2 ^ s)).length ≤ (limbs (x * 2 ^ s)).length); have hV1 := (Nat.pos_of_ne_zero (mt nl0.1 (by omega)) : 0 < (limbs (y * 2 ^ s)).length); have hvt := limbs_last_ne hV1; I (by omega : (limbs (y * 2 ^ s)).length ≤ (limbs (x * 2 ^ s)).length) ((fun (L : Nat) (hL : L = (((limbs (x * 2 ^ s)).length) - ((limbs (y * 2 ^ s)).length)) + 1) => I (by omega : L = L) (I (by subst hL; exact DX.start (n := (limbs (y * 2 ^ s)).length) (by omega) rfl (by omega) rfl : DX (x * 2 ^ s) (y * 2 ^ s) L ((((limbs (x * 2 ^ s)).length : Nat) : Int) - (((limbs (y * 2 ^ s)).length : Nat) : Int)) (List.replicate L (0 : Nat)) (x * 2 ^ s)) (fun (z : Int) (r : Nat) (ql : List Nat) (hb9 : HB [.s 15 (.int .i64) (.n 17179869184), .s 5 .mag (.n 137438953568), .a 82 (.nat .u32) (.n 4294967295)] (z, r, ql)) (hD : DX (x * 2 ^ s) (y * 2 ^ s) L z ql r) => have hv34 := (show Int.natAbs z ≤ 17179869184 from hb9.1); have hv35 := (show ∀ u ∈ ql, u ≤ 4294967295 from hb9.2.2); have hDz := hD.hz; have hDz1 := hD.hz1; have hDl := hD.hl; And.intro (fun (h10 : 0 ≤ z) => have hr1 := limbs_getD_lt r (z.toNat + (limbs (y * 2 ^ s)).length); have hr2 := limbs_getD_lt r (z.toNat + (limbs (y * 2 ^ s)).length - 1); And.intro (fun (h11 : z + (((limbs (y * 2 ^ s)).length : Nat) : Int) < (((limbs r).length : Nat) : Int)) => I (by omega : z + (((limbs (y * 2 ^ s)).length : Nat) : Int) = ((z.toNat + (limbs (y * 2 ^ s)).length : Nat) : Int)) (I (by omega : z.toNat + (limbs (y * 2 ^ s)).length < (limbs r).length) (And.intro (fun (h12 : (z + (((limbs (y * 2 ^ s)).length : Nat) : Int)) - 1 < (((limbs r).length : Nat) : Int)) => I (by omega : (z + (((limbs (y * 2 ^ s)).length : Nat) : Int)) - 1 = ((z.toNat + (limbs (y * 2 ^ s)).length - 1 : Nat) : Int)) (I (by omega : z.toNat + (limbs (y * 2 ^ s)).length - 1 < (limbs r).length) (I (bi_or _ 32 rfl (limbs_getD_lt _ _) (by omega) : BinIs .or .u64 ((((limbs r).getD (z.toNat + (limbs (y * 2 ^ s)).length) 0) * 2 ^ 32 : Nat) : Int) (((limbs r).getD (z.toNat + (limbs (y * 2 ^ s)).length - 1) 0 : Nat) : Int) (((((limbs r).getD (z.toNat + (limbs (y * 2 ^ s)).length) 0) * 2 ^ 32) + ((limbs r).getD (z.toNat + (limbs (y * 2 ^ s)).length - 1) 0) : Nat) : Int)) (I (by omega : (((limbs r).getD (z.toNat + (limbs (y * 2 ^ s)).length) 0) * 2 ^ 32) + ((limbs r).getD (z.toNat + (limbs (y * 2 ^ s)).length - 1) 0) ≤ 18446744073709551615) (have hT := (show (((limbs r).getD (z.toNat + (limbs (y * 2 ^ s)).length) 0) * 2 ^ 32) + ((limbs r).getD (z.toNat + (limbs (y * 2 ^ s)).length - 1) 0) = (limbs r).getD (z.toNat + (limbs (y * 2 ^ s)).length) 0 * 4294967296 + (limbs r).getD (z.toNat + (limbs (y * 2 ^ s)).length - 1) 0 from by (have hq1 := @getD_out (limbs r) (z.toNat + (limbs (y * 2 ^ s)).length); have hq2 := @getD_out (limbs r) (z.toNat + (limbs (y * 2 ^ s)).length - 1); omega)); I (by omega : 1 ≤ (limbs (y * 2 ^ s)).length) (I (by omega : ((limbs (y * 2 ^ s)).length) - 1 < (limbs (y * 2 ^ s)).length) (I (by omega : 0 < (limbs (y * 2 ^ s)).getD (((limbs (y * 2 ^ s)).length) - 1) 0) (I (by omega : 0 ≤ z) (I (hD.est (by omega) rfl hV0 (by omega) rfl hT : EX (y * 2 ^ s) z.toNat r (min (((((limbs r).getD (z.toNat + (limbs (y * 2 ^ s)).length) 0) * 2 ^ 32) + ((limbs r).getD (z.toNat + (limbs (y * 2 ^ s)).length - 1) 0)) / ((limbs (y * 2 ^ s)).getD (((limbs (y * 2 ^ s)).length) - 1) 0)) 4294967295) (((y * 2 ^ s) * (min (((((limbs r).getD (z.toNat + (limbs (y * 2 ^ s)).length) 0) * 2 ^ 32) + ((limbs r).getD (z.toNat + (limbs (y * 2 ^ s)).length - 1) 0)) / ((limbs (y * 2 ^ s)).getD (((limbs (y * 2 ^ s)).length) - 1) 0)) 4294967295)) * 4294967296 ^ z.toNat)) (fun (d : Nat) (p : Nat) (hb13 : HB [.s 17 (.nat .u64) (.n 4294967295), .s 18 .mag (.n 1099511627776)] (d, p)) (hE : EX (y * 2 ^ s) z.toNat r d p) => have hv16 := (show d ≤ 4294967295 from hb13.1); And.intro (fun (h14 : 0 < cmpN p r) => have hG := hE.gt hV0 (cmp_gt0.1 (by assumption)); I (by omega : 1 ≤ d) (I (by omega : 0 ≤ z) (I (hG.2.1 : (y * 2 ^ s) * 4294967296 ^ z.toNat ≤ p) (And.intro (hG.2.2 : EX (y * 2 ^ s) z.toNat r (d - 1) (p - ((y * 2 ^ s) * 4294967296 ^ z.toNat))) (by have := hG.1; omega : d - 1 < d))))) (fun (h15 : ¬ (0 < cmpN p r)) => have hle := (show p ≤ r from Nat.le_of_not_lt (mt cmp_gt0.2 (by assumption))); I (by omega : z = ((z.toNat : Nat) : Int)) (I (by omega : z.toNat < L) (I (by omega : z.toNat < ql.length) (I (hle : p ≤ r) (I (show Int.natAbs (z - 1) ≤ 17179869184 by omega : Bnd (.int .i64) (.n 17179869184) (z - 1)) (And.intro (hD.next (by omega) rfl hV0 hE hle : DX (x * 2 ^ s) (y * 2 ^ s) L (z - 1) (ql.set z.toNat d) (r - p)) (by omega : ((z - 1) + 1).toNat < (z + 1).toNat))))))))))))))))) (fun (h17 : ¬ ((z + (((limbs (y * 2 ^ s)).length : Nat) : Int)) - 1 < (((limbs r).length : Nat) : Int))) => have hT := (show ((limbs r).getD (z.toNat + (limbs (y * 2 ^ s)).length) 0) * 2 ^ 32 = (limbs r).getD (z.toNat + (limbs (y * 2 ^ s)).length) 0 * 4294967296 + (limbs r).getD (z.toNat + (limbs (y * 2 ^ s)).length - 1) 0 from by (have hq1 := @getD_out (limbs r) (z.toNat + (limbs (y * 2 ^ s)).length); have hq2 := @getD_out (limbs r) (z.toNat + (limbs (y * 2 ^ s)).length - 1); omega)); I (by omega : 1 ≤ (limbs (y * 2 ^ s)).length) (I (by omega : ((limbs (y * 2 ^ s)).length) - 1 < (limbs (y * 2 ^ s)).length) (I (by omega : 0 < (limbs (y * 2 ^ s)).getD (((limbs (y * 2 ^ s)).length) - 1) 0) (I (by omega : 0 ≤ z) (I (hD.est (by omega) rfl hV0 (by omega) rfl hT : EX (y * 2 ^ s) z.toNat r (min ((((limbs r).getD (z.toNat + (limbs (y * 2 ^ s)).length) 0) * 2 ^ 32) / ((limbs (y * 2 ^ s)).getD (((limbs (y * 2 ^ s)).length) - 1) 0)) 4294967295) (((y * 2 ^ s) * (min ((((limbs r).getD (z.toNat + (limbs (y * 2 ^ s)).length) 0) * 2 ^ 32) / ((limbs (y * 2 ^ s)).getD (((limbs (y * 2 ^ s)).length) - 1) 0)) 4294967295)) * 4294967296 ^ z.toNat)) (fun (d : Nat) (p : Nat) (hb18 : HB [.s 17 (.nat .u64) (.n 4294967295), .s 18 .mag (.n 1099511627776)] (d, p)) (hE : EX (y * 2 ^ s) z.toNat r d p) => have hv21 := (show d ≤ 4294967295 from hb18.1); And.intro (fun (h19 : 0 < cmpN p r) => have hG := hE.gt hV0 (cmp_gt0.1 (by assumption)); I (by omega : 1 ≤ d) (I (by omega : 0 ≤ z) (I (hG.2.1 : (y * 2 ^ s) * 4294967296 ^ z.toNat ≤ p) (And.intro (hG.2.2 : EX (y * 2 ^ s) z.toNat r (d - 1) (p - ((y * 2 ^ s) * 4294967296 ^ z.toNat))) (by have := hG.1; omega : d - 1 < d))))) (fun (h20 : ¬ (0 < cmpN p r)) => have hle := (show p ≤ r from Nat.le_of_not_lt (mt cmp_gt0.2 (by assumption))); I (by omega : z = ((z.toNat : Nat) : Int)) (I (by omega : z.toNat < L) (I (by omega : z.toNat < ql.length) (I (hle : p ≤ r) (I (show Int.natAbs (z - 1) ≤ 17179869184 by omega : Bnd (.int .i64) (.n 17179869184) (z - 1)) (And.intro (hD.next (by omega) rfl hV0 hE hle : DX (x * 2 ^ s) (y * 2 ^ s) L (z - 1) (ql.set z.toNat d) (r - p)) (by omega : ((z - 1) + 1).toNat < (z + 1).toNat)))))))))))))))) (fun (h22 : ¬ (z + (((limbs (y * 2 ^ s)).length : Nat) : Int) < (((limbs r).length : Nat) : Int))) => And.intro (fun (h23 : (z + (((limbs (y * 2 ^ s)).length : Nat) : Int)) - 1 < (((limbs r).length : Nat) : Int)) => I (by omega : (z + (((limbs (y * 2 ^ s)).length : Nat) : Int)) - 1 = ((z.toNat + (limbs (y * 2 ^ s)).length - 1 : Nat) : Int)) (I (by omega : z.toNat + (limbs (y * 2 ^ s)).length - 1 < (limbs r).length) (I (bi_or0 (limbs_getD_lt _ _) : BinIs .or .u64 0 (((limbs r).getD (z.toNat + (limbs (y * 2 ^ s)).length - 1) 0 : Nat) : Int) ((0 + ((limbs r).getD (z.toNat + (limbs (y * 2 ^ s)).length - 1) 0) : Nat) : Int)) (I (by omega : 0 + ((limbs r).getD (z.toNat + (limbs (y * 2 ^ s)).length - 1) 0) ≤ 18446744073709551615) (have hT := (show 0 + ((limbs r).getD (z.toNat + (limbs (y * 2 ^ s)).length - 1) 0) = (limbs r).getD (z.toNat + (limbs (y * 2 ^ s)).length) 0 * 4294967296 + (limbs r).getD (z.toNat + (limbs (y * 2 ^ s)).length - 1) 0 from by (have hq1 := @getD_out (limbs r) (z.toNat + (limbs (y * 2 ^ s)).length); have hq2 := @getD_out (limbs r) (z.toNat + (limbs (y * 2 ^ s)).length - 1); omega)); I (by omega : 1 ≤ (limbs (y * 2 ^ s)).length) (I (by omega : ((limbs (y * 2 ^ s)).length) - 1 < (limbs (y * 2 ^ s)).length) (I (by omega : 0 < (limbs (y * 2 ^ s)).getD (((limbs (y * 2 ^ s)).length) - 1) 0) (I (by omega : 0 ≤ z) (I (hD.est (by omega) rfl hV0 (by omega) rfl hT : EX (y * 2 ^ s) z.toNat r (min ((0 + ((limbs r).getD (z.toNat + (limbs (y * 2 ^ s)).length - 1) 0)) / ((limbs (y * 2 ^ s)).getD (((limbs (y * 2 ^ s)).length) - 1) 0)) 4294967295) (((y * 2 ^ s) * (min ((0 + ((limbs r).getD (z.toNat + (limbs (y * 2 ^ s)).length - 1) 0)) / ((limbs (y * 2 ^ s)).getD (((limbs (y * 2 ^ s)).length) - 1) 0)) 4294967295)) * 4294967296 ^ z.toNat)) (fun (d : Nat) (p : Nat) (hb24 : HB [.s 17 (.nat .u64) (.n 4294967295), .s 18 .mag (.n 1099511627776)] (d, p)) (hE : EX (y * 2 ^ s) z.toNat r d p) => have hv27 := (show d ≤ 4294967295 from hb24.1); And.intro (fun (h25 : 0 < cmpN p r) => have hG := hE.gt hV0 (cmp_gt0.1 (by assumption)); I (by omega : 1 ≤ d) (I (by omega : 0 ≤ z) (I (hG.2.1 : (y * 2 ^ s) * 4294967296 ^ z.toNat ≤ p) (And.intro (hG.2.2 : EX (y * 2 ^ s) z.toNat r (d - 1) (p - ((y * 2 ^ s) * 4294967296 ^ z.toNat))) (by have := hG.1; omega : d - 1 < d))))) (fun (h26 : ¬ (0 < cmpN p r)) => have hle := (show p ≤ r from Nat.le_of_not_lt (mt cmp_gt0.2 (by assumption))); I (by omega : z = ((z.toNat : Nat) : Int)) (I (by omega : z.toNat < L) (I (by omega : z.toNat < ql.length) (I (hle : p ≤ r) (I (show Int.natAbs (z - 1) ≤ 17179869184 by omega : Bnd (.int .i64) (.n 17179869184) (z - 1)) (And.intro (hD.next (by omega) rfl hV0 hE hle : DX (x * 2 ^ s) (y * 2 ^ s) L (z - 1) (ql.set z.toNat d) (r - p)) (by omega : ((z - 1) + 1).toNat < (z + 1).toNat))))))))))))))))) (fun (h28 : ¬ ((z + (((limbs (y * 2 ^ s)).length : Nat) : Int)) - 1 < (((limbs r).length : Nat) : Int))) => have hT := (show 0 = (limbs r).getD (z.toNat + (limbs (y * 2 ^ s)).length) 0 * 4294967296 + (limbs r).getD (z.toNat + (limbs (y * 2 ^ s)).length - 1) 0 from by (have hq1 := @getD_out (limbs r) (z.toNat + (limbs (y * 2 ^ s)).length); have hq2 := @getD_out (limbs r) (z.toNat + (limbs (y * 2 ^ s)).length - 1); omega)); I (by omega : 1 ≤ (limbs (y * 2 ^ s)).length) (I (by omega : ((limbs (y * 2 ^ s)).length) - 1 < (limbs (y * 2 ^ s)).length) (I (by omega : 0 < (limbs (y * 2 ^ s)).getD (((limbs (y * 2 ^ s)).length) - 1) 0) (I (by omega : 0 ≤ z) (I (hD.est (by omega) rfl hV0 (by omega) rfl hT : EX (y * 2 ^ s) z.toNat r (min (0 / ((limbs (y * 2 ^ s)).getD (((limbs (y * 2 ^ s)).length) - 1) 0)) 4294967295) (((y * 2 ^ s) * (min (0 / ((limbs (y * 2 ^ s)).getD (((limbs (y * 2 ^ s)).length) - 1) 0)) 4294967295)) * 4294967296 ^ z.toNat)) (fun (d : Nat) (p : Nat) (hb29 : HB [.s 17 (.nat .u64) (.n 4294967295), .s 18 .mag (.n 1099511627776)] (d, p)) (hE : EX (y * 2 ^ s) z.toNat r d p) => have hv32 := (show d ≤ 4294967295 from hb29.1); And.intro (fun (h30 : 0 < cmpN p r) => have hG := hE.gt hV0 (cmp_gt0.1 (by assumption)); I (by omega : 1 ≤ d) (I (by omega : 0 ≤ z) (I (hG.2.1 : (y * 2 ^ s) * 4294967296 ^ z.toNat ≤ p) (And.intro (hG.2.2 : EX (y * 2 ^ s) z.toNat r (d - 1) (p - ((y * 2 ^ s) * 4294967296 ^ z.toNat))) (by have := hG.1; omega : d - 1 < d))))) (fun (h31 : ¬ (0 < cmpN p r)) => have hle := (show p ≤ r from Nat.le_of_not_lt (mt cmp_gt0.2 (by assumption))); I (by omega : z = ((z.toNat : Nat) : Int)) (I (by omega : z.toNat < L) (I (by omega : z.toNat < ql.length) (I (hle : p ≤ r) (I (show Int.natAbs (z - 1) ≤ 17179869184 by omega : Bnd (.int .i64) (.n 17179869184) (z - 1)) (And.intro (hD.next (by omega) rfl hV0 hE hle : DX (x * 2 ^ s) (y * 2 ^ s) L (z - 1) (ql.set z.toNat d) (r - p)) (by omega : ((z - 1) + 1).toNat < (z + 1).toNat))))))))))))))) (fun (h33 : ¬ (0 ≤ z)) => I (by omega : L = ql.length) (have hF := hD.fin hp0 (by omega); I (hD.hu : ∀ u ∈ ql, u < 4294967296) (And.intro (hF.1 : valL ql = x / y) (hF.2 : r / 2 ^ s = x % y))))))) ((((limbs (x * 2 ^ s)).length) - ((limbs (y * 2 ^ s)).length)) + 1) rfl)) (32 - (bl (y / 4294967296 ^ ((limbs y).length - 1)))) rfl))))))))))⟩)
abbrev xdiv_c : Ctr Tryz.prog := FI.c xdiv_k
end Go.Proofs.YtcjgaaibflcdiaaGreat.Sx

namespace Go.Proofs.YtcjgaaibflcdiaaGreat.Sx
open Go Go.Proofs
set_option linter.unusedVariables false
set_option linter.unusedSimpArgs false
set_option maxRecDepth 20000
set_option maxHeartbeats 4000000
abbrev xgcd_i : FI := ⟨122, [.mag, .mag], [(.n 137438953536), (.n 137438953536)], fun _ => [], fun b z => (fun (x : Nat) (y : Nat) => .c (.one (.dt .mag (.n (max (b0 b).nb (b1 b).nb)) (Nat.gcd x y)))) z.1 z.2⟩
theorem xgcd_k : xgcd_i.OK Tryz.prog := mkF hmix 51 Tryz.func122 rfl rfl (by decide) [(129, .c xtrim_m), (130, .c xof_c), (131, .c xdiv_c), (174, .c xsmall_c)] (fun _ => rfl) (fun _ => rfl) (fun _ _ => rfl) (fun (x : Nat) (y : Nat) b hx hp => one_ok (lt2_gcd (Bnds.h2 hx).1.mag (Bnds.h2 hx).2.mag) rfl) (fun (x : Nat) (y : Nat) hx hp => by
 have hx0 : lt2 x 137438953536 := hx.1
 have hl0 : (limbs x).length ≤ 4294967299 := limbs_len_le (Nat.le_of_lt hx0)
 have hx1 : lt2 y 137438953536 := hx.2
 have hl1 : (limbs y).length ≤ 4294967299 := limbs_len_le (Nat.le_of_lt hx1)
 exact ⟨.loop [.s 0 .mag (.n 137438953536), .s 1 .mag (.n 137438953536)] (fun ((a, b) : Nat × Nat) => Nat.gcd a b = Nat.gcd x y) (fun ((a, b) : Nat × Nat) => b) (fun ((a, b) : Nat × Nat) => .cond (.cond (.cond (.loop [.s 5 (.nat .u64) (.n 18446744073709551615), .s 7 (.nat .u64) (.n 18446744073709551615)] (fun ((u, v) : Nat × Nat) => Nat.gcd u v = Nat.gcd x y) (fun ((u, v) : Nat × Nat) => v) (fun ((u, v) : Nat × Nat) => .nil)) (.nil)) (.nil)) (.nil)), kcast (by kernel_rfl) (I (rfl : Nat.gcd x y = Nat.gcd x y) (fun (a : Nat) (b : Nat) (hb1 : HB [.s 0 .mag (.n 137438953536), .s 1 .mag (.n 137438953536)] (a, b)) (hC : Nat.gcd a b = Nat.gcd x y) => And.intro (fun (h2 : 0 < (limbs b).length) => And.intro (fun (h3 : xk a = true) => And.intro (fun (h4 : xk b = true) => I (by rw [(xw_y (x := a) (of_decide_eq_true (by assumption))).1, (xw_y (x := b) (of_decide_eq_true (by assumption))).1]; exact hC : Nat.gcd (xw a) (xw b) = Nat.gcd x y) (fun (u : Nat) (v : Nat) (hb5 : HB [.s 5 (.nat .u64) (.n 18446744073709551615), .s 7 (.nat .u64) (.n 18446744073709551615)] (u, v)) (hK : Nat.gcd u v = Nat.gcd x y) => have hv8 := (show u ≤ 18446744073709551615 from hb5.1); have hv9 := (show v ≤ 18446744073709551615 from hb5.2); And.intro (fun (h6 : v ≠ 0) => I (by omega : 0 < v) (And.intro ((gcd_step u v).trans hK : Nat.gcd v (u % v) = Nat.gcd x y) (Nat.mod_lt _ (by omega) : u % v < v))) (fun (h7 : ¬ (v ≠ 0)) => (by rw [show v = 0 by omega, Nat.gcd_zero_right] at hK; exact hK : u = Nat.gcd x y)))) (fun (h10 : ¬ (xk b = true)) => have hb0 := (show 0 < b from Nat.pos_of_ne_zero (fun e => by have := nl0.2 e; omega)); I (hb0 : 0 < b) (And.intro ((gcd_step a b).trans hC : Nat.gcd b (a % b) = Nat.gcd x y) (Nat.mod_lt _ hb0 : a % b < b)))) (fun (h11 : ¬ (xk a = true)) => have hb0 := (show 0 < b from Nat.pos_of_ne_zero (fun e => by have := nl0.2 e; omega)); I (hb0 : 0 < b) (And.intro ((gcd_step a b).trans hC : Nat.gcd b (a % b) = Nat.gcd x y) (Nat.mod_lt _ hb0 : a % b < b)))) (fun (h12 : ¬ (0 < (limbs b).length)) => (by have e := nl0.1 (show (limbs b).length = 0 by omega); rw [e, Nat.gcd_zero_right] at hC; exact hC : a = Nat.gcd x y))))⟩)
abbrev xgcd_c : Ctr Tryz.prog := FI.c xgcd_k
end Go.Proofs.YtcjgaaibflcdiaaGreat.Sx

namespace Go.Proofs.YtcjgaaibflcdiaaGreat.Sx
open Go Go.Proofs
set_option linter.unusedVariables false
set_option linter.unusedSimpArgs false
set_option maxRecDepth 20000
set_option maxHeartbeats 4000000
abbrev ysign_i : FI := ⟨29, [.rat], [(.n 68719476736)], fun _ => [], fun b z => (fun (x : Rat) => .c (.one (.dt (.int .i64) (.n 1) (sgnQ x)))) z⟩
theorem ysign_k : ysign_i.OK Tryz.prog := mkF hmix 9 Tryz.func29 rfl rfl (by decide) [] (fun _ => rfl) (fun _ => rfl) (fun _ _ => rfl) (fun (x : Rat) b hx hp => one_ok (sgnQ_abs x) rfl) (fun (x : Rat) hx hp => by
 exact ⟨.nil, kcast (by kernel_rfl) (And.intro (fun (h1 : (limbs x.num.natAbs).length = 0) => (by rw [sgnQ, if_pos (nl0.1 (by assumption))] : 0 = sgnQ x)) (fun (h2 : ¬ ((limbs x.num.natAbs).length = 0)) => And.intro (fun (h3 : x.num < 0) => (by rw [sgnQ, if_neg (mt nl0.2 (by assumption)), if_pos (by assumption)] : (-1) = sgnQ x)) (fun (h4 : ¬ (x.num < 0)) => (by rw [sgnQ, if_neg (mt nl0.2 (by assumption)), if_neg (by assumption)] : 1 = sgnQ x))))⟩)
abbrev ysign_c : Ctr Tryz.prog := FI.c ysign_k
abbrev yden_i : FI := ⟨78, [.rat], [(.n 1099511627776)], fun _ => [], fun b z => (fun (x : Rat) => .c (.one (.dt .mag (.n ((b0 b).nb + 1)) (x.den)))) z⟩
theorem yden_k : yden_i.OK Tryz.prog := mkF hmix 10 Tryz.func78 rfl rfl (by decide) [] (fun _ => rfl) (fun _ => rfl) (fun _ _ => rfl) (fun (x : Rat) b hx hp => one_ok (le2_lt2 (Bnds.h1 hx).rat.2) rfl) (fun (x : Rat) hx hp => by
 have hx0 : Bnd .rat (.n 1099511627776) x := hx
 exact ⟨.cond (.h 2 0 (.mk (.im (.nat .u32) (.n 4294967295))) (.h 2 1 (.mag 1 1) (.nil))) (.h 3 1 (.mag x.den 1099511627777) (.nil)), kcast (by kernel_rfl) (And.intro (fun (h1 : (denL x.den).length = 0) => I (limbs_one.symm : [1] = limbs 1) (I (lt2_lit rfl : lt2 1 1) (((denL_one x.den_nz (by omega)).symm : 1 = x.den)))) (fun (h2 : ¬ ((denL x.den).length = 0)) => I (denL_limbs (by omega) : denL x.den = limbs x.den) (I (le2_lt2 hx0.2 : lt2 x.den 1099511627777) ((Eq.refl x.den)))))⟩)
abbrev yden_c : Ctr Tryz.prog := FI.c yden_k
abbrev ysize_i : FI := ⟨79, [(.int .i64)], [(.n 4611686018427387904)], fun _ => [], fun b z => (fun (v : Int) => .tup [(.one (.dt .mag (.n (Nat.log2 (b0 b).nb + 1)) (v.natAbs))), .one (.dt .bool .u (decide (v < 0)))]) z⟩
theorem ysize_k : ysize_i.OK Tryz.prog := mkF hmix 15 Tryz.func79 rfl rfl (by decide) [(130, .c xof_c)] (fun _ => rfl) (fun _ => rfl) (fun _ _ => rfl) (fun (v : Int) b hx hp => tup_cons (one_ok (lt2_log (Bnds.h1 hx).int) rfl) (tup_cons (one_ok trivial rfl) tup_nil)) (fun (v : Int) hx hp => by
 have hx0 : Int.natAbs v ≤ 4611686018427387904 := hx
 exact ⟨.cond (.h 2 3 (.i (.n (v.natAbs - 1) 4611686018427387904)) (.nil)) (.h 3 1 (.i (.n v.natAbs 4611686018427387904)) (.nil)), kcast (by kernel_rfl) (And.intro (fun (h1 : v < 0) => I (by rw [show -(v + 1) = ((v.natAbs - 1 : Nat) : Int) by omega]; exact wrapN_u64 (by omega) : IntKind.wrap .u64 (-(v + 1)) = ((v.natAbs - 1 : Nat) : Int)) (I (by omega : v.natAbs - 1 ≤ 4611686018427387904) (And.intro (by omega : (v.natAbs - 1) + 1 = v.natAbs) ((decide_eq_true (by assumption)).symm : true = decide (v < 0))))) (fun (h2 : ¬ (v < 0)) => I (by rw [show v = ((v.natAbs : Nat) : Int) by omega]; exact wrapN_u64 (by omega) : IntKind.wrap .u64 v = ((v.natAbs : Nat) : Int)) (I (by omega : v.natAbs ≤ 4611686018427387904) (And.intro (Eq.refl v.natAbs) ((decide_eq_false (by assumption)).symm : false = decide (v < 0))))))⟩)
abbrev ysize_c : Ctr Tryz.prog := FI.c ysize_k
abbrev yreduce_i : FI := ⟨80, [.bool, .mag, .mag], [.u, (.n 137438953536), (.n 137438953536)], fun z => (fun (neg : Bool) (n : Nat) (d : Nat) => [0 < d]) z.1 z.2.1 z.2.2, fun b z => (fun (neg : Bool) (n : Nat) (d : Nat) => .c (.agg [.dt .rat (.n (max (b1 b).nb (b2 b).nb)) (sgQ neg n d)])) z.1 z.2.1 z.2.2⟩
theorem yreduce_k : yreduce_i.OK Tryz.prog := mkF hmix 55 Tryz.func80 rfl rfl (by decide) [(122, .c xgcd_c), (129, .c xtrim_m), (131, .c xdiv_c)] (fun _ => rfl) (fun _ => rfl) (fun _ _ => rfl) (fun (neg : Bool) (n : Nat) (d : Nat) b hx hp => agg_rat (sgQ_bnd0 (lt2_mono (Nat.le_max_left _ _) (Bnds.h3 hx).2.1.mag) (lt2_mono (Nat.le_max_right _ _) (Bnds.h3 hx).2.2.mag))) (fun (neg : Bool) (n : Nat) (d : Nat) hx hp => by
 have hx1 : lt2 n 137438953536 := hx.2.1
 have hl1 : (limbs n).length ≤ 4294967299 := limbs_len_le (Nat.le_of_lt hx1)
 have hx2 : lt2 d 137438953536 := hx.2.2
 have hl2 : (limbs d).length ≤ 4294967299 := limbs_len_le (Nat.le_of_lt hx2)
 have hp0 : 0 < d := hp _ (List.mem_cons_self)
 exact ⟨.cond (.nil) ((fun (g : Nat) => .cond (.cond (.cond (.h 10 3 (.rat (sgQ neg n d) 137438953536) (.nil)) (.h 10 3 (.rat (sgQ neg n d) 137438953536) (.nil))) (.h 10 3 (.rat (sgQ neg n d) 137438953536) (.nil))) (.cond (.cond (.cond (.h 10 3 (.rat (sgQ neg n d) 137438953536) (.nil)) (.h 10 3 (.rat (sgQ neg n d) 137438953536) (.nil))) (.h 10 3 (.rat (sgQ neg n d) 137438953536) (.nil))) (.cond (.cond (.h 10 3 (.rat (sgQ neg n d) 137438953536) (.nil)) (.h 10 3 (.rat (sgQ neg n d) 137438953536) (.nil))) (.h 10 3 (.rat (sgQ neg n d) 137438953536) (.nil))))) (Nat.gcd n d)), kcast (by kernel_rfl) (And.intro (fun (h1 : (limbs n).length = 0) => (by rw [nl0.1 (show (limbs n).length = 0 by assumption), sgQ_zero] : 0 = sgQ neg n d)) (fun (h2 : ¬ ((limbs n).length = 0)) => have hn0 := (show 0 < n from Nat.pos_of_ne_zero (mt nl0.2 (by omega))); have hd0 := hp0; (fun (g : Nat) (hg : g = Nat.gcd n d) => have hg0 := (show 0 < g from hg ▸ Nat.gcd_pos_of_pos_right _ hd0); have hgl := (Nat.pos_of_ne_zero (mt nl0.1 (show ¬ g = 0 by omega)) : 0 < (limbs g).length); And.intro (fun (h3 : (limbs g).length ≠ 1) => I (by omega : 0 < g) (I (by omega : 0 < g) (And.intro (fun (h4 : (limbs (d / g)).length = 1) => I (by omega : 0 < (limbs (d / g)).length) (And.intro (fun (h5 : (limbs (d / g)).getD 0 0 = 1) => I ((sgQ_neg hn0 hd0).symm : neg = decide ((sgQ neg n d).num < 0)) (I (by rw [sgQ_abs hd0, ← hg] <;> first | rfl | (rw [hg1, Nat.div_one] <;> rfl) : n / g = (sgQ neg n d).num.natAbs) (I (by rw [(sgQ_norm hd0).2, ← hg]; first | exact one_of (by omega) (by omega) | (rw [hg1, Nat.div_one]; exact one_of (by omega) (by omega)) : (sgQ neg n d).den = 1) (I ((sgQ_bnd (p := 137438953536) (lt2_mono (by decide) hx1) (lt2_le2 (lt2_mono (by decide) hx2)) hd0).1 : lt2 (sgQ neg n d).num.natAbs 137438953536) (I ((sgQ_bnd (p := 137438953536) (lt2_mono (by decide) hx1) (lt2_le2 (lt2_mono (by decide) hx2)) hd0).2 : le2 (sgQ neg n d).den 137438953536) ((Eq.refl (sgQ neg n d)))))))) (fun (h6 : ¬ ((limbs (d / g)).getD 0 0 = 1)) => I ((sgQ_neg hn0 hd0).symm : neg = decide ((sgQ neg n d).num < 0)) (I (by rw [sgQ_abs hd0, ← hg] <;> first | rfl | (rw [hg1, Nat.div_one] <;> rfl) : n / g = (sgQ neg n d).num.natAbs) (I (red_den (by rw [(sgQ_norm hd0).2, ← hg] <;> first | rfl | (rw [hg1, Nat.div_one] <;> rfl)) (by omega) : limbs (d / g) = denL (sgQ neg n d).den) (I ((sgQ_bnd (p := 137438953536) (lt2_mono (by decide) hx1) (lt2_le2 (lt2_mono (by decide) hx2)) hd0).1 : lt2 (sgQ neg n d).num.natAbs 137438953536) (I ((sgQ_bnd (p := 137438953536) (lt2_mono (by decide) hx1) (lt2_le2 (lt2_mono (by decide) hx2)) hd0).2 : le2 (sgQ neg n d).den 137438953536) ((Eq.refl (sgQ neg n d)))))))))) (fun (h7 : ¬ ((limbs (d / g)).length = 1)) => I ((sgQ_neg hn0 hd0).symm : neg = decide ((sgQ neg n d).num < 0)) (I (by rw [sgQ_abs hd0, ← hg] <;> first | rfl | (rw [hg1, Nat.div_one] <;> rfl) : n / g = (sgQ neg n d).num.natAbs) (I (red_den (by rw [(sgQ_norm hd0).2, ← hg] <;> first | rfl | (rw [hg1, Nat.div_one] <;> rfl)) (by omega) : limbs (d / g) = denL (sgQ neg n d).den) (I ((sgQ_bnd (p := 137438953536) (lt2_mono (by decide) hx1) (lt2_le2 (lt2_mono (by decide) hx2)) hd0).1 : lt2 (sgQ neg n d).num.natAbs 137438953536) (I ((sgQ_bnd (p := 137438953536) (lt2_mono (by decide) hx1) (lt2_le2 (lt2_mono (by decide) hx2)) hd0).2 : le2 (sgQ neg n d).den 137438953536) ((Eq.refl (sgQ neg n d))))))))))) (fun (h8 : ¬ ((limbs g).length ≠ 1)) => I (by omega : 0 < (limbs g).length) (And.intro (fun (h9 : (limbs g).getD 0 0 ≠ 1) => I (by omega : 0 < g) (I (by omega : 0 < g) (And.intro (fun (h10 : (limbs (d / g)).length = 1) => I (by omega : 0 < (limbs (d / g)).length) (And.intro (fun (h11 : (limbs (d / g)).getD 0 0 = 1) => I ((sgQ_neg hn0 hd0).symm : neg = decide ((sgQ neg n d).num < 0)) (I (by rw [sgQ_abs hd0, ← hg] <;> first | rfl | (rw [hg1, Nat.div_one] <;> rfl) : n / g = (sgQ neg n d).num.natAbs) (I (by rw [(sgQ_norm hd0).2, ← hg]; first | exact one_of (by omega) (by omega) | (rw [hg1, Nat.div_one]; exact one_of (by omega) (by omega)) : (sgQ neg n d).den = 1) (I ((sgQ_bnd (p := 137438953536) (lt2_mono (by decide) hx1) (lt2_le2 (lt2_mono (by decide) hx2)) hd0).1 : lt2 (sgQ neg n d).num.natAbs 137438953536) (I ((sgQ_bnd (p := 137438953536) (lt2_mono (by decide) hx1) (lt2_le2 (lt2_mono (by decide) hx2)) hd0).2 : le2 (sgQ neg n d).den 137438953536) ((Eq.refl (sgQ neg n d)))))))) (fun (h12 : ¬ ((limbs (d / g)).getD 0 0 = 1)) => I ((sgQ_neg hn0 hd0).symm : neg = decide ((sgQ neg n d).num < 0)) (I (by rw [sgQ_abs hd0, ← hg] <;> first | rfl | (rw [hg1, Nat.div_one] <;> rfl) : n / g = (sgQ neg n d).num.natAbs) (I (red_den (by rw [(sgQ_norm hd0).2, ← hg] <;> first | rfl | (rw [hg1, Nat.div_one] <;> rfl)) (by omega) : limbs (d / g) = denL (sgQ neg n d).den) (I ((sgQ_bnd (p := 137438953536) (lt2_mono (by decide) hx1) (lt2_le2 (lt2_mono (by decide) hx2)) hd0).1 : lt2 (sgQ neg n d).num.natAbs 137438953536) (I ((sgQ_bnd (p := 137438953536) (lt2_mono (by decide) hx1) (lt2_le2 (lt2_mono (by decide) hx2)) hd0).2 : le2 (sgQ neg n d).den 137438953536) ((Eq.refl (sgQ neg n d)))))))))) (fun (h13 : ¬ ((limbs (d / g)).length = 1)) => I ((sgQ_neg hn0 hd0).symm : neg = decide ((sgQ neg n d).num < 0)) (I (by rw [sgQ_abs hd0, ← hg] <;> first | rfl | (rw [hg1, Nat.div_one] <;> rfl) : n / g = (sgQ neg n d).num.natAbs) (I (red_den (by rw [(sgQ_norm hd0).2, ← hg] <;> first | rfl | (rw [hg1, Nat.div_one] <;> rfl)) (by omega) : limbs (d / g) = denL (sgQ neg n d).den) (I ((sgQ_bnd (p := 137438953536) (lt2_mono (by decide) hx1) (lt2_le2 (lt2_mono (by decide) hx2)) hd0).1 : lt2 (sgQ neg n d).num.natAbs 137438953536) (I ((sgQ_bnd (p := 137438953536) (lt2_mono (by decide) hx1) (lt2_le2 (lt2_mono (by decide) hx2)) hd0).2 : le2 (sgQ neg n d).den 137438953536) ((Eq.refl (sgQ neg n d))))))))))) (fun (h14 : ¬ ((limbs g).getD 0 0 ≠ 1)) => have hg1 := (one_of (by omega) (by omega) : g = 1); And.intro (fun (h15 : (limbs d).length = 1) => I (by omega : 0 < (limbs d).length) (And.intro (fun (h16 : (limbs d).getD 0 0 = 1) => I ((sgQ_neg hn0 hd0).symm : neg = decide ((sgQ neg n d).num < 0)) (I (by rw [sgQ_abs hd0, ← hg] <;> first | rfl | (rw [hg1, Nat.div_one] <;> rfl) : n = (sgQ neg n d).num.natAbs) (I (by rw [(sgQ_norm hd0).2, ← hg]; first | exact one_of (by omega) (by omega) | (rw [hg1, Nat.div_one]; exact one_of (by omega) (by omega)) : (sgQ neg n d).den = 1) (I ((sgQ_bnd (p := 137438953536) (lt2_mono (by decide) hx1) (lt2_le2 (lt2_mono (by decide) hx2)) hd0).1 : lt2 (sgQ neg n d).num.natAbs 137438953536) (I ((sgQ_bnd (p := 137438953536) (lt2_mono (by decide) hx1) (lt2_le2 (lt2_mono (by decide) hx2)) hd0).2 : le2 (sgQ neg n d).den 137438953536) ((Eq.refl (sgQ neg n d)))))))) (fun (h17 : ¬ ((limbs d).getD 0 0 = 1)) => I ((sgQ_neg hn0 hd0).symm : neg = decide ((sgQ neg n d).num < 0)) (I (by rw [sgQ_abs hd0, ← hg] <;> first | rfl | (rw [hg1, Nat.div_one] <;> rfl) : n = (sgQ neg n d).num.natAbs) (I (red_den (by rw [(sgQ_norm hd0).2, ← hg] <;> first | rfl | (rw [hg1, Nat.div_one] <;> rfl)) (by omega) : limbs d = denL (sgQ neg n d).den) (I ((sgQ_bnd (p := 137438953536) (lt2_mono (by decide) hx1) (lt2_le2 (lt2_mono (by decide) hx2)) hd0).1 : lt2 (sgQ neg n d).num.natAbs 137438953536) (I ((sgQ_bnd (p := 137438953536) (lt2_mono (by decide) hx1) (lt2_le2 (lt2_mono (by decide) hx2)) hd0).2 : le2 (sgQ neg n d).den 137438953536) ((Eq.refl (sgQ neg n d)))))))))) (fun (h18 : ¬ ((limbs d).length = 1)) => I ((sgQ_neg hn0 hd0).symm : neg = decide ((sgQ neg n d).num < 0)) (I (by rw [sgQ_abs hd0, ← hg] <;> first | rfl | (rw [hg1, Nat.div_one] <;> rfl) : n = (sgQ neg n d).num.natAbs) (I (red_den (by rw [(sgQ_norm hd0).2, ← hg] <;> first | rfl | (rw [hg1, Nat.div_one] <;> rfl)) (by omega) : limbs d = denL (sgQ neg n d).den) (I ((sgQ_bnd (p := 137438953536) (lt2_mono (by decide) hx1) (lt2_le2 (lt2_mono (by decide) hx2)) hd0).1 : lt2 (sgQ neg n d).num.natAbs 137438953536) (I ((sgQ_bnd (p := 137438953536) (lt2_mono (by decide) hx1) (lt2_le2 (lt2_mono (by decide) hx2)) hd0).2 : le2 (sgQ neg n d).den 137438953536) ((Eq.refl (sgQ neg n d)))))))))))) (Nat.gcd n d) rfl))⟩)
abbrev yreduce_c : Ctr Tryz.prog := FI.c yreduce_k
end Go.Proofs.YtcjgaaibflcdiaaGreat.Sx

namespace Go.Proofs.YtcjgaaibflcdiaaGreat.Sx
open Go Go.Proofs
set_option linter.unusedVariables false
set_option linter.unusedSimpArgs false
set_option maxRecDepth 20000
set_option maxHeartbeats 4000000
abbrev yint_i : FI := ⟨31, [(.int .i64)], [(.n 4611686018427387904)], fun _ => [], fun b z => (fun (v : Int) => .c (.agg [.dt .rat (.n (Nat.log2 (b0 b).nb + 1)) ((v : Rat))])) z⟩
theorem yint_k : yint_i.OK Tryz.prog := mkF hmix 13 Tryz.func31 rfl rfl (by decide) [(79, .c ysize_c)] (fun _ => rfl) (fun _ => rfl) (fun _ _ => rfl) (fun (v : Int) b hx hp => agg_rat (int_bnd (Bnds.h1 hx).int)) (fun (v : Int) hx hp => by
 have hx0 : Int.natAbs v ≤ 4611686018427387904 := hx
 exact ⟨.h 2 2 (.rat (v : Rat) 64) (.nil), kcast (by kernel_rfl) (I (by rw [int_num] : decide (v < 0) = decide ((v : Rat).num < 0)) (I (by rw [int_num] : v.natAbs = (v : Rat).num.natAbs) (I (int_den v : (v : Rat).den = 1) (I (by rw [int_num]; exact Nat.lt_of_le_of_lt hx0 (by decide) : lt2 (v : Rat).num.natAbs 64) (I (by rw [int_den]; exact Nat.one_le_two_pow : le2 (v : Rat).den 64) ((Eq.refl (v : Rat))))))))⟩)
abbrev yint_c : Ctr Tryz.prog := FI.c yint_k
abbrev ymake_i : FI := ⟨81, [(.int .i64), (.int .i64)], [(.n 4611686018427387904), (.n 4611686018427387904)], fun _ => [], fun b z => (fun (u : Int) (v : Int) => .tup [.agg [.dt .rat (.n (max (Nat.log2 (b0 b).nb + 1) (Nat.log2 (b1 b).nb + 1))) ((u : Rat) / (v : Rat))], .one (.dt (.int .i64) (.n 3) (mkC' v))]) z.1 z.2⟩
theorem ymake_k : ymake_i.OK Tryz.prog := mkF hmix 29 Tryz.func81 rfl rfl (by decide) [(79, .c ysize_c), (80, .c yreduce_c)] (fun _ => rfl) (fun _ => rfl) (fun _ _ => rfl) (fun (u : Int) (v : Int) b hx hp => tup_cons (agg_rat (make_bnd (Bnds.h2 hx).1.int (Bnds.h2 hx).2.int)) (tup_cons (one_ok (mkC_b v) rfl) tup_nil)) (fun (u : Int) (v : Int) hx hp => by
 have hx0 : Int.natAbs u ≤ 4611686018427387904 := hx.1
 have hx1 : Int.natAbs v ≤ 4611686018427387904 := hx.2
 exact ⟨.nil, kcast (by kernel_rfl) (And.intro (fun (h1 : v = 0) => And.intro (by rw [show v = 0 by assumption]; simp [Rat.div_def] : 0 = ((u : Int) : Rat) / ((v : Int) : Rat)) ((if_pos (by assumption)).symm : 3 = mkC' v)) (fun (h2 : ¬ (v = 0)) => I (by omega : 0 < v.natAbs) (And.intro (make_eq u v : sgQ (decide ((decide (u < 0)) ≠ (decide (v < 0)))) u.natAbs v.natAbs = ((u : Int) : Rat) / ((v : Int) : Rat)) ((if_neg (by assumption)).symm : 0 = mkC' v))))⟩)
abbrev ymake_c : Ctr Tryz.prog := FI.c ymake_k
abbrev yfrac_i : FI := ⟨33, [(.int .i64), (.int .i64)], [(.n 4611686018427387904), (.n 4611686018427387904)], fun _ => [], fun b z => (fun (u : Int) (v : Int) => .c (.agg [.dt .rat (.n (max (Nat.log2 (b0 b).nb + 1) (Nat.log2 (b1 b).nb + 1))) ((u : Rat) / (v : Rat))])) z.1 z.2⟩
theorem yfrac_k : yfrac_i.OK Tryz.prog := mkF hmix 14 Tryz.func33 rfl rfl (by decide) [(81, .c ymake_c)] (fun _ => rfl) (fun _ => rfl) (fun _ _ => rfl) (fun (u : Int) (v : Int) b hx hp => agg_rat (make_bnd (Bnds.h2 hx).1.int (Bnds.h2 hx).2.int)) (fun (u : Int) (v : Int) hx hp => by
 exact ⟨.nil, kcast (by kernel_rfl) ((Eq.refl (((u : Int) : Rat) / ((v : Int) : Rat))))⟩)
abbrev yfrac_c : Ctr Tryz.prog := FI.c yfrac_k
abbrev ysame_i : FI := ⟨17, [.rat, .rat], [(.n 68719476736), (.n 68719476736)], fun _ => [], fun b z => (fun (x : Rat) (y : Rat) => .c (.one (.dt .bool .u (decide (x = y))))) z.1 z.2⟩
theorem ysame_k : ysame_i.OK Tryz.prog := mkF hmix 26 Tryz.func17 rfl rfl (by decide) [(66, .c xcmp_c)] (fun _ => rfl) (fun _ => rfl) (fun _ _ => rfl) (fun (x : Rat) (y : Rat) b hx hp => one_ok trivial rfl) (fun (x : Rat) (y : Rat) hx hp => by
 have hx0 : Bnd .rat (.n 68719476736) x := hx.1
 have hx1 : Bnd .rat (.n 68719476736) y := hx.2
 exact ⟨.cond (.cond (.h 1 15 (.mag (dm x.den) 68719476737) (.h 1 17 (.mag (dm y.den) 68719476737) (.nil))) (.nil)) (.nil), kcast (by kernel_rfl) (And.intro (fun (h1 : (decide (x.num < 0)) = (decide (y.num < 0))) => And.intro (fun (h2 : cmpN x.num.natAbs y.num.natAbs = 0) => I (denL_dm _ : denL x.den = limbs (dm x.den)) (I (dm_lt2 hx0.2 : lt2 (dm x.den) 68719476737) (I (denL_dm _ : denL y.den = limbs (dm y.den)) (I (dm_lt2 hx1.2 : lt2 (dm y.den) 68719476737) ((ysame' (by assumption) (by assumption) : decide (cmpN (dm x.den) (dm y.den) = 0) = decide (x = y))))))) (fun (h3 : ¬ (cmpN x.num.natAbs y.num.natAbs = 0)) => (ysame (by first | exact .inl (by assumption) | exact .inr (.inl (by assumption))) : false = decide (x = y)))) (fun (h4 : ¬ ((decide (x.num < 0)) = (decide (y.num < 0)))) => (ysame (by first | exact .inl (by assumption) | exact .inr (.inl (by assumption))) : false = decide (x = y))))⟩)
abbrev ysame_c : Ctr Tryz.prog := FI.c ysame_k
abbrev yneg_i : FI := ⟨82, [.rat], [(.n 68719476736)], fun _ => [], fun b z => (fun (x : Rat) => .c (.agg [.dt .rat (.n ((b0 b).nb)) (-x)])) z⟩
theorem yneg_k : yneg_i.OK Tryz.prog := mkF hmix 14 Tryz.func82 rfl rfl (by decide) [] (fun _ => rfl) (fun _ => rfl) (fun _ _ => rfl) (fun (x : Rat) b hx hp => agg_rat (neg_bnd (Bnds.h1 hx))) (fun (x : Rat) hx hp => by
 exact ⟨.cond (.h 2 0 (.rat (-x) 68719476736) (.nil)) (.h 2 0 (.rat (-x) 68719476736) (.nil)), kcast (by kernel_rfl) (And.intro (fun (h1 : ¬ (x.num < 0)) => I (by first | exact neg_s1 (by assumption) | exact neg_s2 (by omega) : decide (0 < (limbs x.num.natAbs).length) = decide ((-x).num < 0)) (I ((neg_abs x).symm : x.num.natAbs = (-x).num.natAbs) (I (by rw [Rat.neg_den] : denL x.den = denL (-x).den) (I ((neg_bnd hx).1 : lt2 (-x).num.natAbs 68719476736) (I ((neg_bnd hx).2 : le2 (-x).den 68719476736) ((Eq.refl (-x)))))))) (fun (h2 : ¬ (¬ (x.num < 0))) => I (by first | exact neg_s1 (by assumption) | exact neg_s2 (by omega) : false = decide ((-x).num < 0)) (I ((neg_abs x).symm : x.num.natAbs = (-x).num.natAbs) (I (by rw [Rat.neg_den] : denL x.den = denL (-x).den) (I ((neg_bnd hx).1 : lt2 (-x).num.natAbs 68719476736) (I ((neg_bnd hx).2 : le2 (-x).den 68719476736) ((Eq.refl (-x)))))))))⟩)
abbrev yneg_c : Ctr Tryz.prog := FI.c yneg_k
end Go.Proofs.YtcjgaaibflcdiaaGreat.Sx

namespace Go.Proofs.YtcjgaaibflcdiaaGreat.Sx
open Go Go.Proofs
set_option linter.unusedVariables false
set_option linter.unusedSimpArgs false
set_option maxRecDepth 20000
set_option maxHeartbeats 4000000
abbrev yadd_i : FI := ⟨62, [.rat, .rat], [(.n 68719476736), (.n 68719476736)], fun _ => [], fun b z => (fun (x : Rat) (y : Rat) => .c (.agg [.dt .rat (.n ((b0 b).nb + (b1 b).nb + 1)) (x + y)])) z.1 z.2⟩
theorem yadd_k : yadd_i.OK Tryz.prog := mkF hmix 75 Tryz.func62 rfl rfl (by decide) [(66, .c xcmp_c), (77, .c xmul_c), (78, .c yden_c), (80, .c yreduce_c), (112, .c xadd_c), (113, .c xsub_c)] (fun _ => rfl) (fun _ => rfl) (fun _ _ => rfl) (fun (x : Rat) (y : Rat) b hx hp => agg_rat (add_bnd' (Bnds.h2 hx).1 (Bnds.h2 hx).2)) (fun (x : Rat) (y : Rat) hx hp => by
 exact ⟨.nil, kcast (by kernel_rfl) (And.intro (fun (h1 : (limbs x.num.natAbs).length = 0) => (by rw [rat_num0 (x := x) (nl0.1 (by assumption)), Rat.zero_add] : y = x + y)) (fun (h2 : ¬ ((limbs x.num.natAbs).length = 0)) => And.intro (fun (h3 : (limbs y.num.natAbs).length = 0) => (by rw [rat_num0 (x := y) (nl0.1 (by assumption)), Rat.add_zero] : x = x + y)) (fun (h4 : ¬ ((limbs y.num.natAbs).length = 0)) => have hqx := Nat.pos_of_ne_zero x.den_nz; have hqy := Nat.pos_of_ne_zero y.den_nz; have hqp := Nat.mul_pos hqx hqy; And.intro (fun (h5 : (decide (x.num < 0)) = (decide (y.num < 0))) => I (hqp : 0 < x.den * y.den) ((by rw [show x + y = x + yQ (decide (y.num < 0)) y by rw [yQ_self]]; first | (have hs : decide (x.num < 0) = decide (y.num < 0) := (by assumption); rw [hs]; exact add_sm hs) | exact add_ge (by assumption) (Nat.le_of_not_lt (mt cmp_lt0.2 (by assumption))) | exact add_le (by assumption) (by have h := cmp_lt0.1 (show cmpN (x.num.natAbs * y.den) (y.num.natAbs * x.den) < 0 by assumption); omega) : sgQ (decide (x.num < 0)) ((x.num.natAbs * y.den) + (y.num.natAbs * x.den)) (x.den * y.den) = x + y))) (fun (h6 : ¬ ((decide (x.num < 0)) = (decide (y.num < 0)))) => And.intro (fun (h7 : cmpN (x.num.natAbs * y.den) (y.num.natAbs * x.den) < 0) => I (hqp : 0 < x.den * y.den) ((by rw [show x + y = x + yQ (decide (y.num < 0)) y by rw [yQ_self]]; first | (have hs : decide (x.num < 0) = decide (y.num < 0) := (by assumption); rw [hs]; exact add_sm hs) | exact add_ge (by assumption) (Nat.le_of_not_lt (mt cmp_lt0.2 (by assumption))) | exact add_le (by assumption) (by have h := cmp_lt0.1 (show cmpN (x.num.natAbs * y.den) (y.num.natAbs * x.den) < 0 by assumption); omega) : sgQ (decide (y.num < 0)) ((y.num.natAbs * x.den) - (x.num.natAbs * y.den)) (x.den * y.den) = x + y))) (fun (h8 : ¬ (cmpN (x.num.natAbs * y.den) (y.num.natAbs * x.den) < 0)) => I (hqp : 0 < x.den * y.den) ((by rw [show x + y = x + yQ (decide (y.num < 0)) y by rw [yQ_self]]; first | (have hs : decide (x.num < 0) = decide (y.num < 0) := (by assumption); rw [hs]; exact add_sm hs) | exact add_ge (by assumption) (Nat.le_of_not_lt (mt cmp_lt0.2 (by assumption))) | exact add_le (by assumption) (by have h := cmp_lt0.1 (show cmpN (x.num.natAbs * y.den) (y.num.natAbs * x.den) < 0 by assumption); omega) : sgQ (decide (x.num < 0)) ((x.num.natAbs * y.den) - (y.num.natAbs * x.den)) (x.den * y.den) = x + y)))))))⟩)
abbrev yadd_c : Ctr Tryz.prog := FI.c yadd_k
abbrev ysub_i : FI := ⟨34, [.rat, .rat], [(.n 68719476736), (.n 68719476736)], fun _ => [], fun b z => (fun (x : Rat) (y : Rat) => .c (.agg [.dt .rat (.n ((b0 b).nb + (b1 b).nb + 1)) (x - y)])) z.1 z.2⟩
theorem ysub_k : ysub_i.OK Tryz.prog := mkF hmix 9 Tryz.func34 rfl rfl (by decide) [(62, .c yadd_c), (82, .c yneg_c)] (fun _ => rfl) (fun _ => rfl) (fun _ _ => rfl) (fun (x : Rat) (y : Rat) b hx hp => agg_rat (sub_bnd' (Bnds.h2 hx).1 (Bnds.h2 hx).2)) (fun (x : Rat) (y : Rat) hx hp => by
 exact ⟨.nil, kcast (by kernel_rfl) ((by rw [Rat.sub_eq_add_neg] : x + (-y) = x - y))⟩)
abbrev ysub_c : Ctr Tryz.prog := FI.c ysub_k
abbrev ymul_i : FI := ⟨32, [.rat, .rat], [(.n 68719476736), (.n 68719476736)], fun _ => [], fun b z => (fun (x : Rat) (y : Rat) => .c (.agg [.dt .rat (.n ((b0 b).nb + (b1 b).nb)) (x * y)])) z.1 z.2⟩
theorem ymul_k : ymul_i.OK Tryz.prog := mkF hmix 21 Tryz.func32 rfl rfl (by decide) [(77, .c xmul_c), (78, .c yden_c), (80, .c yreduce_c)] (fun _ => rfl) (fun _ => rfl) (fun _ _ => rfl) (fun (x : Rat) (y : Rat) b hx hp => agg_rat (rat_mul_bnd (Bnds.h2 hx).1 (Bnds.h2 hx).2)) (fun (x : Rat) (y : Rat) hx hp => by
 have hqp := Nat.mul_pos (Nat.pos_of_ne_zero x.den_nz) (Nat.pos_of_ne_zero y.den_nz)
 exact ⟨.nil, kcast (by kernel_rfl) (have hqx := Nat.pos_of_ne_zero x.den_nz; have hqy := Nat.pos_of_ne_zero y.den_nz; have hqp := Nat.mul_pos hqx hqy; I (hqp : 0 < x.den * y.den) ((rat_mul x y : sgQ (decide ((decide (x.num < 0)) ≠ (decide (y.num < 0)))) (x.num.natAbs * y.num.natAbs) (x.den * y.den) = x * y)))⟩)
abbrev ymul_c : Ctr Tryz.prog := FI.c ymul_k
abbrev yquo_i : FI := ⟨60, [.rat, .rat], [(.n 68719476736), (.n 68719476736)], fun _ => [], fun b z => (fun (x : Rat) (y : Rat) => .tup [.agg [.dt .rat (.n ((b0 b).nb + (b1 b).nb)) (x / y)], .one (.dt (.int .i64) (.n 3) (quoC y))]) z.1 z.2⟩
theorem yquo_k : yquo_i.OK Tryz.prog := mkF hmix 27 Tryz.func60 rfl rfl (by decide) [(77, .c xmul_c), (78, .c yden_c), (80, .c yreduce_c)] (fun _ => rfl) (fun _ => rfl) (fun _ _ => rfl) (fun (x : Rat) (y : Rat) b hx hp => tup_cons (agg_rat (quo_bnd (Bnds.h2 hx).1 (Bnds.h2 hx).2)) (tup_cons (one_ok (quoC_b y) rfl) tup_nil)) (fun (x : Rat) (y : Rat) hx hp => by
 exact ⟨.nil, kcast (by kernel_rfl) (And.intro (fun (h1 : (limbs y.num.natAbs).length = 0) => And.intro (quo_0 (nl0.1 (by assumption)) : 0 = x / y) ((if_pos (nl0.1 (by assumption))).symm : 3 = quoC y)) (fun (h2 : ¬ ((limbs y.num.natAbs).length = 0)) => have hy0 := (mt nl0.2 (by assumption) : ¬ y.num.natAbs = 0); I (Nat.mul_pos (Nat.pos_of_ne_zero x.den_nz) (Nat.pos_of_ne_zero hy0) : 0 < x.den * y.num.natAbs) (And.intro (quo_sg hy0 : sgQ (decide ((decide (x.num < 0)) ≠ (decide (y.num < 0)))) (x.num.natAbs * y.den) (x.den * y.num.natAbs) = x / y) ((if_neg hy0).symm : 0 = quoC y))))⟩)
abbrev yquo_c : Ctr Tryz.prog := FI.c yquo_k
abbrev yover_i : FI := ⟨126, [.rat, .rat], [(.n 68719476736), (.n 68719476736)], fun _ => [], fun b z => (fun (x : Rat) (y : Rat) => .c (.agg [.dt .rat (.n ((b0 b).nb + (b1 b).nb)) (x / y)])) z.1 z.2⟩
theorem yover_k : yover_i.OK Tryz.prog := mkF hmix 14 Tryz.func126 rfl rfl (by decide) [(60, .c yquo_c)] (fun _ => rfl) (fun _ => rfl) (fun _ _ => rfl) (fun (x : Rat) (y : Rat) b hx hp => agg_rat (quo_bnd (Bnds.h2 hx).1 (Bnds.h2 hx).2)) (fun (x : Rat) (y : Rat) hx hp => by
 exact ⟨.nil, kcast (by kernel_rfl) ((Eq.refl (x / y)))⟩)
abbrev yover_c : Ctr Tryz.prog := FI.c yover_k
abbrev ycmp_i : FI := ⟨25, [.rat, .rat], [(.n 68719476736), (.n 68719476736)], fun _ => [], fun b z => (fun (x : Rat) (y : Rat) => .c (.one (.dt (.int .i64) (.n 1) (cmpQ x y)))) z.1 z.2⟩
theorem ycmp_k : ycmp_i.OK Tryz.prog := mkF hmix 34 Tryz.func25 rfl rfl (by decide) [(29, .c ysign_c), (66, .c xcmp_c), (77, .c xmul_c), (78, .c yden_c)] (fun _ => rfl) (fun _ => rfl) (fun _ _ => rfl) (fun (x : Rat) (y : Rat) b hx hp => one_ok (cmpQ_abs x y) rfl) (fun (x : Rat) (y : Rat) hx hp => by
 exact ⟨.nil, kcast (by kernel_rfl) (And.intro (fun (h1 : sgnQ x ≠ sgnQ y) => And.intro (fun (h2 : sgnQ x < sgnQ y) => (by first | exact ((cmp_sgn (by assumption)).1 (by assumption)).symm | exact ((cmp_sgn (by assumption)).2 (by assumption)).symm | exact (cmp_neg hs (by assumption)).symm | exact (cmp_pos hs (by assumption)).symm : (-1) = cmpQ x y)) (fun (h3 : ¬ (sgnQ x < sgnQ y)) => (by first | exact ((cmp_sgn (by assumption)).1 (by assumption)).symm | exact ((cmp_sgn (by assumption)).2 (by assumption)).symm | exact (cmp_neg hs (by assumption)).symm | exact (cmp_pos hs (by assumption)).symm : 1 = cmpQ x y))) (fun (h4 : ¬ (sgnQ x ≠ sgnQ y)) => have hs := (show sgnQ x = sgnQ y by omega); And.intro (fun (h5 : x.num < 0) => (by first | exact ((cmp_sgn (by assumption)).1 (by assumption)).symm | exact ((cmp_sgn (by assumption)).2 (by assumption)).symm | exact (cmp_neg hs (by assumption)).symm | exact (cmp_pos hs (by assumption)).symm : -(cmpN (x.num.natAbs * y.den) (y.num.natAbs * x.den)) = cmpQ x y)) (fun (h6 : ¬ (x.num < 0)) => (by first | exact ((cmp_sgn (by assumption)).1 (by assumption)).symm | exact ((cmp_sgn (by assumption)).2 (by assumption)).symm | exact (cmp_neg hs (by assumption)).symm | exact (cmp_pos hs (by assumption)).symm : cmpN (x.num.natAbs * y.den) (y.num.natAbs * x.den) = cmpQ x y))))⟩)
abbrev ycmp_c : Ctr Tryz.prog := FI.c ycmp_k
end Go.Proofs.YtcjgaaibflcdiaaGreat.Sx

namespace Go.Proofs.YtcjgaaibflcdiaaGreat.Sx
open Go Go.Proofs
set_option linter.unusedVariables false
set_option linter.unusedSimpArgs false
set_option maxRecDepth 20000
set_option maxHeartbeats 4000000
abbrev vsamep_i : FI := ⟨88, [(.pr .rat (.pr .rat .rat)), (.pr .rat (.pr .rat .rat))], [(.p (.n 4294967296) (.p (.n 4294967296) (.n 4294967296))), (.p (.n 4294967296) (.p (.n 4294967296) (.n 4294967296)))], fun _ => [], fun b z => (fun (p : Rat × Rat × Rat) (q : Rat × Rat × Rat) => .c (.one (.dt .bool .u (decide (p = q))))) z.1 z.2⟩
theorem vsamep_k : vsamep_i.OK Tryz.prog := mkF hmix 18 Tryz.func88 rfl rfl (by decide) [(145, .c rsame_c)] (fun _ => rfl) (fun _ => rfl) (fun _ _ => rfl) (fun (p : Rat × Rat × Rat) (q : Rat × Rat × Rat) b hx hp => one_ok trivial rfl) (fun (p : Rat × Rat × Rat) (q : Rat × Rat × Rat) hx hp => by
 exact ⟨.nil, kcast (by kernel_rfl) (And.intro (fun (h1 : (!(decide (p.1 = q.1))) = true) => (v3_no (.inl (nd h1)) : false = decide (p = q))) (fun (h2 : ¬ ((!(decide (p.1 = q.1))) = true)) => And.intro (fun (h3 : (!(decide (p.2.1 = q.2.1))) = true) => (v3_no (.inr (.inl (nd h3))) : false = decide (p = q))) (fun (h4 : ¬ ((!(decide (p.2.1 = q.2.1))) = true)) => And.intro (fun (h5 : (!(decide (p.2.2 = q.2.2))) = true) => (v3_no (.inr (.inr (nd h5))) : false = decide (p = q))) (fun (h6 : ¬ ((!(decide (p.2.2 = q.2.2))) = true)) => (v3_yes (nd' h2) (nd' h4) (nd' h6) : true = decide (p = q))))))⟩)
abbrev vsamep_c : Ctr Tryz.prog := FI.c vsamep_k
abbrev vsamer_i : FI := ⟨16, [(.pr .rat (.pr .rat .rat)), (.pr .rat (.pr .rat .rat))], [(.p (.n 4294967296) (.p (.n 4294967296) (.n 4294967296))), (.p (.n 4294967296) (.p (.n 4294967296) (.n 4294967296)))], fun _ => [], fun b z => (fun (p : Rat × Rat × Rat) (q : Rat × Rat × Rat) => .c (.one (.dt .bool .u (decide (p = q))))) z.1 z.2⟩
theorem vsamer_k : vsamer_i.OK Tryz.prog := mkF hmix 24 Tryz.func16 rfl rfl (by decide) [(17, .c ysame_c)] (fun _ => rfl) (fun _ => rfl) (fun _ _ => rfl) (fun (p : Rat × Rat × Rat) (q : Rat × Rat × Rat) b hx hp => one_ok trivial rfl) (fun (p : Rat × Rat × Rat) (q : Rat × Rat × Rat) hx hp => by
 exact ⟨.nil, kcast (by kernel_rfl) (And.intro (fun (h1 : decide (p.1 = q.1) = true) => And.intro (fun (h2 : decide (p.2.1 = q.2.1) = true) => (by rw [decide_eq_decide, v3_iff]; exact ⟨fun h => ⟨(yd h1), (yd h2), h⟩, fun h => h.2.2⟩ : decide (p.2.2 = q.2.2) = decide (p = q))) (fun (h3 : ¬ (decide (p.2.1 = q.2.1) = true)) => (v3_no (.inr (.inl (yd' h3))) : false = decide (p = q)))) (fun (h4 : ¬ (decide (p.1 = q.1) = true)) => (v3_no (.inl (yd' h4)) : false = decide (p = q))))⟩)
abbrev vsamer_c : Ctr Tryz.prog := FI.c vsamer_k
abbrev vzerop_i : FI := ⟨46, [(.pr .rat (.pr .rat .rat))], [(.p (.n 4294967296) (.p (.n 4294967296) (.n 4294967296)))], fun _ => [], fun b z => (fun (p : Rat × Rat × Rat) => .c (.one (.dt .bool .u (decide (p = (0, 0, 0)))))) z⟩
theorem vzerop_k : vzerop_i.OK Tryz.prog := mkF hmix 6 Tryz.func46 rfl rfl (by decide) [(88, .c vsamep_c)] (fun _ => rfl) (fun _ => rfl) (fun _ _ => rfl) (fun (p : Rat × Rat × Rat) b hx hp => one_ok trivial rfl) (fun (p : Rat × Rat × Rat) hx hp => by
 exact ⟨.nil, kcast (by kernel_rfl) ((Eq.refl (decide (p = (0, 0, 0)))))⟩)
abbrev vzerop_c : Ctr Tryz.prog := FI.c vzerop_k
abbrev vzeror_i : FI := ⟨27, [(.pr .rat (.pr .rat .rat))], [(.p (.n 4294967296) (.p (.n 4294967296) (.n 4294967296)))], fun _ => [], fun b z => (fun (p : Rat × Rat × Rat) => .c (.one (.dt .bool .u (decide (p = (0, 0, 0)))))) z⟩
theorem vzeror_k : vzeror_i.OK Tryz.prog := mkF hmix 6 Tryz.func27 rfl rfl (by decide) [(16, .c vsamer_c)] (fun _ => rfl) (fun _ => rfl) (fun _ _ => rfl) (fun (p : Rat × Rat × Rat) b hx hp => one_ok trivial rfl) (fun (p : Rat × Rat × Rat) hx hp => by
 exact ⟨.nil, kcast (by kernel_rfl) ((Eq.refl (decide (p = (0, 0, 0)))))⟩)
abbrev vzeror_c : Ctr Tryz.prog := FI.c vzeror_k
end Go.Proofs.YtcjgaaibflcdiaaGreat.Sx

namespace Go.Proofs.YtcjgaaibflcdiaaGreat.Sx
open Go Go.Proofs
set_option linter.unusedVariables false
set_option linter.unusedSimpArgs false
set_option maxRecDepth 20000
set_option maxHeartbeats 4000000
abbrev eachadd_i : FI := ⟨91, [(.pr .rat (.pr .rat .rat)), (.pr .rat (.pr .rat .rat)), (.fn 52)], [(.p (.n 4294967296) (.p (.n 4294967296) (.n 4294967296))), (.p (.n 4294967296) (.p (.n 4294967296) (.n 4294967296))), .u], fun _ => [], fun b z => (fun (p : Rat × Rat × Rat) (q : Rat × Rat × Rat) (u : Unit) => .c (.agg [.dt tV3 (bV3 ((b0 b).mx + (b1 b).mx + 1)) (addV p q)])) z.1 z.2.1 z.2.2⟩
theorem eachadd_k : eachadd_i.OK Tryz.prog := mkF hmix 24 Tryz.func91 rfl rfl (by decide) [(52, .c raddp_c)] (fun _ => rfl) (fun _ => rfl) (fun _ _ => rfl) (fun (p : Rat × Rat × Rat) (q : Rat × Rat × Rat) (u : Unit) b hx hp => v3_ok (addV_b (Bnds.h3 hx).1 (Bnds.h3 hx).2.1)) (fun (p : Rat × Rat × Rat) (q : Rat × Rat × Rat) (u : Unit) hx hp => by
 exact ⟨.nil, kcast (by kernel_rfl) ((rfl : (p.1 + q.1, p.2.1 + q.2.1, p.2.2 + q.2.2) = addV p q))⟩)
abbrev eachadd_c : Ctr Tryz.prog := FI.c eachadd_k
abbrev eachmul_i : FI := ⟨91, [(.pr .rat (.pr .rat .rat)), (.pr .rat (.pr .rat .rat)), (.fn 89)], [(.p (.n 4294967296) (.p (.n 4294967296) (.n 4294967296))), (.p (.n 4294967296) (.p (.n 4294967296) (.n 4294967296))), .u], fun _ => [], fun b z => (fun (p : Rat × Rat × Rat) (q : Rat × Rat × Rat) (u : Unit) => .c (.agg [.dt tV3 (bV3 ((b0 b).mx + (b1 b).mx)) (mulV p q)])) z.1 z.2.1 z.2.2⟩
theorem eachmul_k : eachmul_i.OK Tryz.prog := mkF hmix 24 Tryz.func91 rfl rfl (by decide) [(89, .c rmul_c)] (fun _ => rfl) (fun _ => rfl) (fun _ _ => rfl) (fun (p : Rat × Rat × Rat) (q : Rat × Rat × Rat) (u : Unit) b hx hp => v3_ok (mulV_b (Bnds.h3 hx).1 (Bnds.h3 hx).2.1)) (fun (p : Rat × Rat × Rat) (q : Rat × Rat × Rat) (u : Unit) hx hp => by
 exact ⟨.nil, kcast (by kernel_rfl) ((rfl : (p.1 * q.1, p.2.1 * q.2.1, p.2.2 * q.2.2) = mulV p q))⟩)
abbrev eachmul_c : Ctr Tryz.prog := FI.c eachmul_k
abbrev vaddp_i : FI := ⟨55, [(.pr .rat (.pr .rat .rat)), (.pr .rat (.pr .rat .rat))], [(.p (.n 4294967296) (.p (.n 4294967296) (.n 4294967296))), (.p (.n 4294967296) (.p (.n 4294967296) (.n 4294967296)))], fun _ => [], fun b z => (fun (p : Rat × Rat × Rat) (q : Rat × Rat × Rat) => .c (.agg [.dt tV3 (bV3 ((b0 b).mx + (b1 b).mx + 1)) (addV p q)])) z.1 z.2⟩
theorem vaddp_k : vaddp_i.OK Tryz.prog := mkF hmix 8 Tryz.func55 rfl rfl (by decide) [(91, .c eachadd_c)] (fun _ => rfl) (fun _ => rfl) (fun _ _ => rfl) (fun (p : Rat × Rat × Rat) (q : Rat × Rat × Rat) b hx hp => v3_ok (addV_b (Bnds.h2 hx).1 (Bnds.h2 hx).2)) (fun (p : Rat × Rat × Rat) (q : Rat × Rat × Rat) hx hp => by
 exact ⟨.nil, kcast (by kernel_rfl) ((Eq.refl (addV p q)))⟩)
abbrev vaddp_c : Ctr Tryz.prog := FI.c vaddp_k
abbrev vaddr_i : FI := ⟨26, [(.pr .rat (.pr .rat .rat)), (.pr .rat (.pr .rat .rat))], [(.p (.n 4294967296) (.p (.n 4294967296) (.n 4294967296))), (.p (.n 4294967296) (.p (.n 4294967296) (.n 4294967296)))], fun _ => [], fun b z => (fun (p : Rat × Rat × Rat) (q : Rat × Rat × Rat) => .c (.agg [.dt tV3 (bV3 ((b0 b).mx + (b1 b).mx + 1)) (addV p q)])) z.1 z.2⟩
theorem vaddr_k : vaddr_i.OK Tryz.prog := mkF hmix 20 Tryz.func26 rfl rfl (by decide) [(62, .c yadd_c)] (fun _ => rfl) (fun _ => rfl) (fun _ _ => rfl) (fun (p : Rat × Rat × Rat) (q : Rat × Rat × Rat) b hx hp => v3_ok (addV_b (Bnds.h2 hx).1 (Bnds.h2 hx).2)) (fun (p : Rat × Rat × Rat) (q : Rat × Rat × Rat) hx hp => by
 exact ⟨.nil, kcast (by kernel_rfl) ((rfl : (p.1 + q.1, p.2.1 + q.2.1, p.2.2 + q.2.2) = addV p q))⟩)
abbrev vaddr_c : Ctr Tryz.prog := FI.c vaddr_k
abbrev vscalep_i : FI := ⟨50, [.rat, (.pr .rat (.pr .rat .rat))], [(.n 4294967296), (.p (.n 4294967296) (.p (.n 4294967296) (.n 4294967296)))], fun _ => [], fun b z => (fun (r : Rat) (q : Rat × Rat × Rat) => .c (.agg [.dt tV3 (bV3 ((b0 b).mx + (b1 b).mx)) (scaleV r q)])) z.1 z.2⟩
theorem vscalep_k : vscalep_i.OK Tryz.prog := mkF hmix 11 Tryz.func50 rfl rfl (by decide) [] (fun _ => rfl) (fun _ => rfl) (fun _ _ => rfl) (fun (r : Rat) (q : Rat × Rat × Rat) b hx hp => v3_ok (scaleV_b (Bnds.h2 hx).1 (Bnds.h2 hx).2)) (fun (r : Rat) (q : Rat × Rat × Rat) hx hp => by
 exact ⟨.h 1 5 (.c eachmul_c) (.nil), kcast (by kernel_rfl) ((rfl : mulV (r, r, r) q = scaleV r q))⟩)
abbrev vscalep_c : Ctr Tryz.prog := FI.c vscalep_k
abbrev vscaler_i : FI := ⟨43, [.rat, (.pr .rat (.pr .rat .rat))], [(.n 4294967296), (.p (.n 4294967296) (.p (.n 4294967296) (.n 4294967296)))], fun _ => [], fun b z => (fun (r : Rat) (q : Rat × Rat × Rat) => .c (.agg [.dt tV3 (bV3 ((b0 b).mx + (b1 b).mx)) (scaleV r q)])) z.1 z.2⟩
theorem vscaler_k : vscaler_i.OK Tryz.prog := mkF hmix 18 Tryz.func43 rfl rfl (by decide) [(32, .c ymul_c)] (fun _ => rfl) (fun _ => rfl) (fun _ _ => rfl) (fun (r : Rat) (q : Rat × Rat × Rat) b hx hp => v3_ok (scaleV_b (Bnds.h2 hx).1 (Bnds.h2 hx).2)) (fun (r : Rat) (q : Rat × Rat × Rat) hx hp => by
 exact ⟨.nil, kcast (by kernel_rfl) ((rfl : (r * q.1, r * q.2.1, r * q.2.2) = scaleV r q))⟩)
abbrev vscaler_c : Ctr Tryz.prog := FI.c vscaler_k
abbrev vdotp_i : FI := ⟨48, [(.pr .rat (.pr .rat .rat)), (.pr .rat (.pr .rat .rat))], [(.p (.n 4294967296) (.p (.n 4294967296) (.n 4294967296))), (.p (.n 4294967296) (.p (.n 4294967296) (.n 4294967296)))], fun _ => [], fun b z => (fun (p : Rat × Rat × Rat) (q : Rat × Rat × Rat) => .c (.agg [.dt .rat (.n (3 * ((b0 b).mx + (b1 b).mx) + 2)) (dotQ p q)])) z.1 z.2⟩
theorem vdotp_k : vdotp_i.OK Tryz.prog := mkF hmix 21 Tryz.func48 rfl rfl (by decide) [(52, .c raddp_c), (89, .c rmul_c)] (fun _ => rfl) (fun _ => rfl) (fun _ _ => rfl) (fun (p : Rat × Rat × Rat) (q : Rat × Rat × Rat) b hx hp => agg_ok (dotQ_b (Bnds.h2 hx).1 (Bnds.h2 hx).2)) (fun (p : Rat × Rat × Rat) (q : Rat × Rat × Rat) hx hp => by
 exact ⟨.nil, kcast (by kernel_rfl) ((by rw [Rat.zero_add]; rfl : ((0 + (p.1 * q.1)) + (p.2.1 * q.2.1)) + (p.2.2 * q.2.2) = dotQ p q))⟩)
abbrev vdotp_c : Ctr Tryz.prog := FI.c vdotp_k
abbrev vdotr_i : FI := ⟨23, [(.pr .rat (.pr .rat .rat)), (.pr .rat (.pr .rat .rat))], [(.p (.n 4294967296) (.p (.n 4294967296) (.n 4294967296))), (.p (.n 4294967296) (.p (.n 4294967296) (.n 4294967296)))], fun _ => [], fun b z => (fun (p : Rat × Rat × Rat) (q : Rat × Rat × Rat) => .c (.agg [.dt .rat (.n (3 * ((b0 b).mx + (b1 b).mx) + 2)) (dotQ p q)])) z.1 z.2⟩
theorem vdotr_k : vdotr_i.OK Tryz.prog := mkF hmix 21 Tryz.func23 rfl rfl (by decide) [(32, .c ymul_c), (62, .c yadd_c)] (fun _ => rfl) (fun _ => rfl) (fun _ _ => rfl) (fun (p : Rat × Rat × Rat) (q : Rat × Rat × Rat) b hx hp => agg_ok (dotQ_b (Bnds.h2 hx).1 (Bnds.h2 hx).2)) (fun (p : Rat × Rat × Rat) (q : Rat × Rat × Rat) hx hp => by
 exact ⟨.nil, kcast (by kernel_rfl) ((by rw [Rat.zero_add]; rfl : ((0 + (p.1 * q.1)) + (p.2.1 * q.2.1)) + (p.2.2 * q.2.2) = dotQ p q))⟩)
abbrev vdotr_c : Ctr Tryz.prog := FI.c vdotr_k
abbrev vcrossp_i : FI := ⟨47, [(.pr .rat (.pr .rat .rat)), (.pr .rat (.pr .rat .rat))], [(.p (.n 4294967296) (.p (.n 4294967296) (.n 4294967296))), (.p (.n 4294967296) (.p (.n 4294967296) (.n 4294967296)))], fun _ => [], fun b z => (fun (p : Rat × Rat × Rat) (q : Rat × Rat × Rat) => .c (.agg [.dt tV3 (bV3 (2 * ((b0 b).mx + (b1 b).mx) + 1)) (crossQ p q)])) z.1 z.2⟩
theorem vcrossp_k : vcrossp_i.OK Tryz.prog := mkF hmix 37 Tryz.func47 rfl rfl (by decide) [(51, .c rsub_c), (89, .c rmul_c)] (fun _ => rfl) (fun _ => rfl) (fun _ _ => rfl) (fun (p : Rat × Rat × Rat) (q : Rat × Rat × Rat) b hx hp => v3_ok (crossQ_b (Bnds.h2 hx).1 (Bnds.h2 hx).2)) (fun (p : Rat × Rat × Rat) (q : Rat × Rat × Rat) hx hp => by
 exact ⟨.nil, kcast (by kernel_rfl) ((rfl : ((p.2.1 * q.2.2) - (p.2.2 * q.2.1), (p.2.2 * q.1) - (p.1 * q.2.2), (p.1 * q.2.1) - (p.2.1 * q.1)) = crossQ p q))⟩)
abbrev vcrossp_c : Ctr Tryz.prog := FI.c vcrossp_k
abbrev vcrossr_i : FI := ⟨28, [(.pr .rat (.pr .rat .rat)), (.pr .rat (.pr .rat .rat))], [(.p (.n 4294967296) (.p (.n 4294967296) (.n 4294967296))), (.p (.n 4294967296) (.p (.n 4294967296) (.n 4294967296)))], fun _ => [], fun b z => (fun (p : Rat × Rat × Rat) (q : Rat × Rat × Rat) => .c (.agg [.dt tV3 (bV3 (2 * ((b0 b).mx + (b1 b).mx) + 1)) (crossQ p q)])) z.1 z.2⟩
theorem vcrossr_k : vcrossr_i.OK Tryz.prog := mkF hmix 37 Tryz.func28 rfl rfl (by decide) [(32, .c ymul_c), (34, .c ysub_c)] (fun _ => rfl) (fun _ => rfl) (fun _ _ => rfl) (fun (p : Rat × Rat × Rat) (q : Rat × Rat × Rat) b hx hp => v3_ok (crossQ_b (Bnds.h2 hx).1 (Bnds.h2 hx).2)) (fun (p : Rat × Rat × Rat) (q : Rat × Rat × Rat) hx hp => by
 exact ⟨.nil, kcast (by kernel_rfl) ((rfl : ((p.2.1 * q.2.2) - (p.2.2 * q.2.1), (p.2.2 * q.1) - (p.1 * q.2.2), (p.1 * q.2.1) - (p.2.1 * q.1)) = crossQ p q))⟩)
abbrev vcrossr_c : Ctr Tryz.prog := FI.c vcrossr_k
end Go.Proofs.YtcjgaaibflcdiaaGreat.Sx

namespace Go.Proofs.YtcjgaaibflcdiaaGreat.Sx
open Go Go.Proofs
set_option linter.unusedVariables false
set_option linter.unusedSimpArgs false
set_option maxRecDepth 20000
set_option maxHeartbeats 4000000
abbrev orat_i : FI := ⟨103, [.rat], [(.n 1099511627776)], fun _ => [], fun b z => (fun (x : Rat) => .c (.agg [.dt .rat (b0 b) x])) z⟩
theorem orat_k : orat_i.OK Tryz.prog := mkF hmix 12 Tryz.func103 rfl rfl (by decide) [(163, .c cloneM_c)] (fun _ => rfl) (fun _ => rfl) (fun _ _ => rfl) (fun (x : Rat) b hx hp => agg_ok (Bnds.h1 hx)) (fun (x : Rat) hx hp => by
 have hx0 : Bnd .rat (.n 1099511627776) x := hx
 exact ⟨.h 1 7 (.c cloneD_c) (.h 1 8 (.rat x 1099511627776) (.nil)), kcast (by kernel_rfl) (I (Eq.refl (decide (x.num < 0))) (I (Eq.refl x.num.natAbs) (I (Eq.refl (denL x.den)) (I (hx0.1 : lt2 x.num.natAbs 1099511627776) (I (hx0.2 : le2 x.den 1099511627776) ((Eq.refl x)))))))⟩)
abbrev orat_c : Ctr Tryz.prog := FI.c orat_k
abbrev opoint_i : FI := ⟨58, [(.pr .rat (.pr .rat .rat))], [(.p (.n 1099511627776) (.p (.n 1099511627776) (.n 1099511627776)))], fun _ => [], fun b z => (fun (x : Rat × Rat × Rat) => .c (.agg [.dt tV3 (b0 b) x])) z⟩
theorem opoint_k : opoint_i.OK Tryz.prog := mkF hmix 13 Tryz.func58 rfl rfl (by decide) [(103, .c orat_c)] (fun _ => rfl) (fun _ => rfl) (fun _ _ => rfl) (fun (x : Rat × Rat × Rat) b hx hp => agg_ok (Bnds.h1 hx)) (fun (x : Rat × Rat × Rat) hx hp => by
 exact ⟨.nil, kcast (by kernel_rfl) ((rfl : (x.1, x.2.1, x.2.2) = x))⟩)
abbrev opoint_c : Ctr Tryz.prog := FI.c opoint_k
abbrev opole_i : FI := ⟨162, [(.pr (.pr .rat (.pr .rat .rat)) .rat)], [(.p (.p (.n 1099511627776) (.p (.n 1099511627776) (.n 1099511627776))) (.n 1099511627776))], fun _ => [], fun b z => (fun (x : (Rat × Rat × Rat) × Rat) => .c (.agg [.dt (.pr tV3 .rat) (b0 b) x])) z⟩
theorem opole_k : opole_i.OK Tryz.prog := mkF hmix 10 Tryz.func162 rfl rfl (by decide) [(58, .c opoint_c), (103, .c orat_c)] (fun _ => rfl) (fun _ => rfl) (fun _ _ => rfl) (fun (x : (Rat × Rat × Rat) × Rat) b hx hp => agg_ok (Bnds.h1 hx)) (fun (x : (Rat × Rat × Rat) × Rat) hx hp => by
 exact ⟨.nil, kcast (by kernel_rfl) ((rfl : (x.1, x.2) = x))⟩)
abbrev opole_c : Ctr Tryz.prog := FI.c opole_k
abbrev oeachr_i : FI := ⟨160, [(.sl .rat), (.fn 103)], [(.s 1048576 (.n 1099511627776)), .u], fun _ => [], fun b z => (fun (l : List Rat) (u : Unit) => .c (.one (.dt (.sl .rat) (b0 b) l))) z.1 z.2⟩
theorem oeachr_k : oeachr_i.OK Tryz.prog := mkF hmix 28 Tryz.func160 rfl rfl (by decide) [(103, .c orat_c)] (fun _ => rfl) (fun _ => rfl) (fun _ _ => rfl) (fun (l : List Rat) (u : Unit) b hx hp => one_ok (Bnds.h2 hx).1 rfl) (fun (l : List Rat) (u : Unit) hx hp => by
 have hl0 : l.length ≤ 1048576 := hx.1.1
 exact ⟨.cond (.nil) (.h 3 2 (.mk (.arr .rat (.n 1099511627776))) (.loop [.s 15 (.nat .i64) (.n 1048576), .a 12 .rat (.n 1099511627776)] (fun ((i, out) : Nat × List Rat) => Cpy l out i) (fun ((i, out) : Nat × List Rat) => l.length - i) (fun ((i, out) : Nat × List Rat) => .cond (.nil) (.pre 999999 (.frz 12 true [4]) (.nil))))), kcast (by kernel_rfl) (And.intro (fun (h1 : l = []) => (by rw [h1] : [] = l)) (I (by omega : l.length = l.length) (I (Cpy.start _ : Cpy l (List.replicate l.length (0 : Rat)) 0) (fun (i : Nat) (out : List Rat) (hb3 : HB [.s 15 (.nat .i64) (.n 1048576), .a 12 .rat (.n 1099511627776)] (i, out)) (hI : Cpy l out i) => have hv6 := (show i ≤ 1048576 from hb3.1); have hIl := hI.hl; have hIi := hI.hi; And.intro (fun (h4 : i < l.length) => I (by omega : i < l.length) (I (by omega : i < l.length) (I (by omega : i < out.length) (I (show (i + 1) ≤ 1048576 by omega : Bnd (.nat .i64) (.n 1048576) (i + 1)) (And.intro (hI.step _ (by omega) : Cpy l (out.set i (l.getD i 0)) (i + 1)) (by omega : l.length - (i + 1) < l.length - i)))))) (fun (h5 : ¬ (i < l.length)) => I (by omega : l.length = out.length) ((hI.fin (by omega) : out = l)))))))⟩)
abbrev oeachr_c : Ctr Tryz.prog := FI.c oeachr_k
abbrev oeachp_i : FI := ⟨161, [(.sl (.pr (.pr .rat (.pr .rat .rat)) .rat)), (.fn 162)], [(.s 1048576 (.p (.p (.n 1099511627776) (.p (.n 1099511627776) (.n 1099511627776))) (.n 1099511627776))), .u], fun _ => [], fun b z => (fun (l : List ((Rat × Rat × Rat) × Rat)) (u : Unit) => .c (.one (.dt (.sl (.pr tV3 .rat)) (b0 b) l))) z.1 z.2⟩
theorem oeachp_k : oeachp_i.OK Tryz.prog := mkF hmix 28 Tryz.func161 rfl rfl (by decide) [(162, .c opole_c)] (fun _ => rfl) (fun _ => rfl) (fun _ _ => rfl) (fun (l : List ((Rat × Rat × Rat) × Rat)) (u : Unit) b hx hp => one_ok (Bnds.h2 hx).1 rfl) (fun (l : List ((Rat × Rat × Rat) × Rat)) (u : Unit) hx hp => by
 have hl0 : l.length ≤ 1048576 := hx.1.1
 exact ⟨.cond (.nil) (.h 3 2 (.mk (.arr (.pr (.pr .rat (.pr .rat .rat)) .rat) (.p (.p (.n 1099511627776) (.p (.n 1099511627776) (.n 1099511627776))) (.n 1099511627776)))) (.loop [.s 15 (.nat .i64) (.n 1048576), .a 12 (.pr (.pr .rat (.pr .rat .rat)) .rat) (.p (.p (.n 1099511627776) (.p (.n 1099511627776) (.n 1099511627776))) (.n 1099511627776))] (fun ((i, out) : Nat × List ((Rat × Rat × Rat) × Rat)) => Cpy l out i) (fun ((i, out) : Nat × List ((Rat × Rat × Rat) × Rat)) => l.length - i) (fun ((i, out) : Nat × List ((Rat × Rat × Rat) × Rat)) => .cond (.nil) (.pre 999999 (.frz 12 true [4]) (.nil))))), kcast (by kernel_rfl) (And.intro (fun (h1 : l = []) => (by rw [h1] : [] = l)) (I (by omega : l.length = l.length) (I (Cpy.start _ : Cpy l (List.replicate l.length (((0, (0, 0)), 0) : (Rat × Rat × Rat) × Rat)) 0) (fun (i : Nat) (out : List ((Rat × Rat × Rat) × Rat)) (hb3 : HB [.s 15 (.nat .i64) (.n 1048576), .a 12 (.pr (.pr .rat (.pr .rat .rat)) .rat) (.p (.p (.n 1099511627776) (.p (.n 1099511627776) (.n 1099511627776))) (.n 1099511627776))] (i, out)) (hI : Cpy l out i) => have hv6 := (show i ≤ 1048576 from hb3.1); have hIl := hI.hl; have hIi := hI.hi; And.intro (fun (h4 : i < l.length) => I (by omega : i < l.length) (I (by omega : i < l.length) (I (by omega : i < out.length) (I (show (i + 1) ≤ 1048576 by omega : Bnd (.nat .i64) (.n 1048576) (i + 1)) (And.intro (hI.step _ (by omega) : Cpy l (out.set i (l.getD i ((0, (0, 0)), 0))) (i + 1)) (by omega : l.length - (i + 1) < l.length - i)))))) (fun (h5 : ¬ (i < l.length)) => I (by omega : l.length = out.length) ((hI.fin (by omega) : out = l)))))))⟩)
abbrev oeachp_c : Ctr Tryz.prog := FI.c oeachp_k
abbrev orats_i : FI := ⟨101, [(.sl .rat)], [(.s 1048576 (.n 1099511627776))], fun _ => [], fun b z => (fun (l : List Rat) => .c (.one (.dt (.sl .rat) (b0 b) l))) z⟩
theorem orats_k : orats_i.OK Tryz.prog := mkF hmix 5 Tryz.func101 rfl rfl (by decide) [(160, .c oeachr_c)] (fun _ => rfl) (fun _ => rfl) (fun _ _ => rfl) (fun (l : List Rat) b hx hp => one_ok (Bnds.h1 hx) rfl) (fun (l : List Rat) hx hp => by
 exact ⟨.nil, kcast (by kernel_rfl) ((Eq.refl l))⟩)
abbrev orats_c : Ctr Tryz.prog := FI.c orats_k
abbrev opoles_i : FI := ⟨102, [(.sl (.pr (.pr .rat (.pr .rat .rat)) .rat))], [(.s 1048576 (.p (.p (.n 1099511627776) (.p (.n 1099511627776) (.n 1099511627776))) (.n 1099511627776)))], fun _ => [], fun b z => (fun (l : List ((Rat × Rat × Rat) × Rat)) => .c (.one (.dt (.sl (.pr tV3 .rat)) (b0 b) l))) z⟩
theorem opoles_k : opoles_i.OK Tryz.prog := mkF hmix 5 Tryz.func102 rfl rfl (by decide) [(161, .c oeachp_c)] (fun _ => rfl) (fun _ => rfl) (fun _ _ => rfl) (fun (l : List ((Rat × Rat × Rat) × Rat)) b hx hp => one_ok (Bnds.h1 hx) rfl) (fun (l : List ((Rat × Rat × Rat) × Rat)) hx hp => by
 exact ⟨.nil, kcast (by kernel_rfl) ((Eq.refl l))⟩)
abbrev opoles_c : Ctr Tryz.prog := FI.c opoles_k
abbrev ocurve_i : FI := ⟨57, [(.pr (.int .i64) (.pr (.sl .rat) (.sl (.pr (.pr .rat (.pr .rat .rat)) .rat))))], [(.p (.n 1048576) (.p (.s 1048576 (.n 1099511627776)) (.s 1048576 (.p (.p (.n 1099511627776) (.p (.n 1099511627776) (.n 1099511627776))) (.n 1099511627776)))))], fun _ => [], fun b z => (fun (x : Int × List Rat × List ((Rat × Rat × Rat) × Rat)) => .c (.agg [.dt (.pr (.int .i64) (.pr (.sl .rat) (.sl (.pr tV3 .rat)))) (b0 b) x])) z⟩
theorem ocurve_k : ocurve_i.OK Tryz.prog := mkF hmix 12 Tryz.func57 rfl rfl (by decide) [(101, .c orats_c), (102, .c opoles_c)] (fun _ => rfl) (fun _ => rfl) (fun _ _ => rfl) (fun (x : Int × List Rat × List ((Rat × Rat × Rat) × Rat)) b hx hp => agg_ok (Bnds.h1 hx)) (fun (x : Int × List Rat × List ((Rat × Rat × Rat) × Rat)) hx hp => by
 exact ⟨.nil, kcast (by kernel_rfl) ((rfl : (x.1, x.2.1, x.2.2) = x))⟩)
abbrev ocurve_c : Ctr Tryz.prog := FI.c ocurve_k
end Go.Proofs.YtcjgaaibflcdiaaGreat.Sx

namespace Go.Proofs.YtcjgaaibflcdiaaGreat.Sx
open Go Go.Proofs
set_option linter.unusedVariables false
set_option linter.unusedSimpArgs false
set_option maxRecDepth 20000
set_option maxHeartbeats 4000000
abbrev dnumber_i : FB := ⟨44, (.pr (.sl (.int .i64)) (.nat .i64)), (.p (.s 1048576 (.n 9223372036854775808)) (.n 1048576)), [], [], fun s z => [], fun tb b s z => .c (.agg [.dt .rat (.n (5)) (numV s)]), fun s z => numS s, fun tb b => .p tb.l (.n (max tb.r.nb tb.l.len))⟩
theorem dnumber_k : dnumber_i.OK Tryz.prog := mkB' hmix 18 Tryz.func44 rfl rfl (by decide) [(18, .b dnext_c), (31, .c yint_c), (33, .c yfrac_c)] (fun _ => rfl) (fun _ _ => rfl) (fun _ _ _ _ => rfl) (fun (s : List Int × Nat)  tb b hs hx hp => ⟨agg_ok (numV_b s), numS_b hs⟩) (fun (s : List Int × Nat)  hs hx hp => by
 exact ⟨.nil, kcast (by kernel_rfl) (I (by omega : (0 : Int) < 13) (I (by omega : (0 : Int) < 4) (And.intro (fun (h1 : nextV (nextS s) 4 = 3) => I (by omega : (0 : Int) < 4) (And.intro ((if_pos h1).symm : nextS (nextS (nextS s)) = numS s) (((if_pos h1).symm : (((nextV s 13) - 6 : Int) : Rat) / ((1 + (nextV (nextS (nextS s)) 4) : Int) : Rat) = numV s)))) (fun (h2 : ¬ (nextV (nextS s) 4 = 3)) => And.intro ((if_neg h2).symm : nextS (nextS s) = numS s) (((if_neg h2).symm : (((nextV s 13) - 6 : Int) : Rat) = numV s))))))⟩)
abbrev dnumber_c : CtrB Tryz.prog := FB.c dnumber_k
abbrev dpoint_i : FB := ⟨11, (.pr (.sl (.int .i64)) (.nat .i64)), (.p (.s 1048576 (.n 9223372036854775808)) (.n 1048576)), [], [], fun s z => [], fun tb b s z => .c (.agg [.dt tV3 (bV3 (5)) (pointV s)]), fun s z => pointS s, fun tb b => .p tb.l (.n (max tb.r.nb tb.l.len))⟩
theorem dpoint_k : dpoint_i.OK Tryz.prog := mkB' hmix 10 Tryz.func11 rfl rfl (by decide) [(44, .b dnumber_c)] (fun _ => rfl) (fun _ _ => rfl) (fun _ _ _ _ => rfl) (fun (s : List Int × Nat)  tb b hs hx hp => ⟨v3_ok (pointV_b s), pointS_b hs⟩) (fun (s : List Int × Nat)  hs hx hp => by
 exact ⟨.nil, kcast (by kernel_rfl) (And.intro (rfl : numS (numS (numS s)) = pointS s) ((rfl : (numV s, numV (numS s), numV (numS (numS s))) = pointV s)))⟩)
abbrev dpoint_c : CtrB Tryz.prog := FB.c dpoint_k
abbrev dspot_i : FB := ⟨10, (.pr (.sl (.int .i64)) (.nat .i64)), (.p (.s 1048576 (.n 9223372036854775808)) (.n 1048576)), [], [], fun s z => [], fun tb b s z => .c (.agg [.dt tV3 (bV3 (5)) (spotV s)]), fun s z => spotS s, fun tb b => .p tb.l (.n (max tb.r.nb tb.l.len))⟩
theorem dspot_k : dspot_i.OK Tryz.prog := mkB' hmix 22 Tryz.func10 rfl rfl (by decide) [(18, .b dnext_c), (31, .c yint_c), (33, .c yfrac_c), (36, .b dbool_c)] (fun _ => rfl) (fun _ _ => rfl) (fun _ _ _ _ => rfl) (fun (s : List Int × Nat)  tb b hs hx hp => ⟨v3_ok (spotV_b s), spotS_b hs⟩) (fun (s : List Int × Nat)  hs hx hp => by
 exact ⟨.nil, kcast (by kernel_rfl) (I (by omega : (0 : Int) < 5) (I (by omega : (0 : Int) < 4) (And.intro (fun (h1 : decide (nextV (nextS s) 4 = 4 - 1) = true) => I (by omega : (0 : Int) < 9) (I (by omega : (0 : Int) < 5) (I (by omega : (0 : Int) < 4) (And.intro (fun (h2 : decide (nextV (nextS (nextS (nextS (nextS s)))) 4 = 4 - 1) = true) => I (by omega : (0 : Int) < 9) (I (by omega : (0 : Int) < 5) (I (by omega : (0 : Int) < 4) (And.intro (fun (h3 : decide (nextV (nextS (nextS (nextS (nextS (nextS (nextS (nextS s))))))) 4 = 4 - 1) = true) => I (by omega : (0 : Int) < 9) (And.intro (by unfold spotS oneS; simp only [if_pos (show nextV (nextS s) 4 = 3 from (yd h1)), if_pos (show nextV (nextS (nextS (nextS (nextS s)))) 4 = 3 from (yd h2)), if_pos (show nextV (nextS (nextS (nextS (nextS (nextS (nextS (nextS s))))))) 4 = 3 from (yd h3))] : nextS (nextS (nextS (nextS (nextS (nextS (nextS (nextS (nextS s)))))))) = spotS s) ((by unfold spotV oneV oneS; simp only [if_pos (show nextV (nextS s) 4 = 3 from (yd h1)), if_pos (show nextV (nextS (nextS (nextS (nextS s)))) 4 = 3 from (yd h2)), if_pos (show nextV (nextS (nextS (nextS (nextS (nextS (nextS (nextS s))))))) 4 = 3 from (yd h3))] : (((nextV (nextS (nextS s)) 9 : Int) : Rat) / ((2 : Int) : Rat), ((nextV (nextS (nextS (nextS (nextS (nextS s))))) 9 : Int) : Rat) / ((2 : Int) : Rat), ((nextV (nextS (nextS (nextS (nextS (nextS (nextS (nextS (nextS s)))))))) 9 : Int) : Rat) / ((2 : Int) : Rat)) = spotV s)))) (fun (h4 : ¬ (decide (nextV (nextS (nextS (nextS (nextS (nextS (nextS (nextS s))))))) 4 = 4 - 1) = true)) => And.intro (by unfold spotS oneS; simp only [if_pos (show nextV (nextS s) 4 = 3 from (yd h1)), if_pos (show nextV (nextS (nextS (nextS (nextS s)))) 4 = 3 from (yd h2)), if_neg (show ¬ nextV (nextS (nextS (nextS (nextS (nextS (nextS (nextS s))))))) 4 = 3 from (yd' h4))] : nextS (nextS (nextS (nextS (nextS (nextS (nextS (nextS s))))))) = spotS s) ((by unfold spotV oneV oneS; simp only [if_pos (show nextV (nextS s) 4 = 3 from (yd h1)), if_pos (show nextV (nextS (nextS (nextS (nextS s)))) 4 = 3 from (yd h2)), if_neg (show ¬ nextV (nextS (nextS (nextS (nextS (nextS (nextS (nextS s))))))) 4 = 3 from (yd' h4))] : (((nextV (nextS (nextS s)) 9 : Int) : Rat) / ((2 : Int) : Rat), ((nextV (nextS (nextS (nextS (nextS (nextS s))))) 9 : Int) : Rat) / ((2 : Int) : Rat), ((nextV (nextS (nextS (nextS (nextS (nextS (nextS s)))))) 5 : Int) : Rat)) = spotV s))))))) (fun (h5 : ¬ (decide (nextV (nextS (nextS (nextS (nextS s)))) 4 = 4 - 1) = true)) => I (by omega : (0 : Int) < 5) (I (by omega : (0 : Int) < 4) (And.intro (fun (h6 : decide (nextV (nextS (nextS (nextS (nextS (nextS (nextS s)))))) 4 = 4 - 1) = true) => I (by omega : (0 : Int) < 9) (And.intro (by unfold spotS oneS; simp only [if_pos (show nextV (nextS s) 4 = 3 from (yd h1)), if_neg (show ¬ nextV (nextS (nextS (nextS (nextS s)))) 4 = 3 from (yd' h5)), if_pos (show nextV (nextS (nextS (nextS (nextS (nextS (nextS s)))))) 4 = 3 from (yd h6))] : nextS (nextS (nextS (nextS (nextS (nextS (nextS (nextS s))))))) = spotS s) ((by unfold spotV oneV oneS; simp only [if_pos (show nextV (nextS s) 4 = 3 from (yd h1)), if_neg (show ¬ nextV (nextS (nextS (nextS (nextS s)))) 4 = 3 from (yd' h5)), if_pos (show nextV (nextS (nextS (nextS (nextS (nextS (nextS s)))))) 4 = 3 from (yd h6))] : (((nextV (nextS (nextS s)) 9 : Int) : Rat) / ((2 : Int) : Rat), ((nextV (nextS (nextS (nextS s))) 5 : Int) : Rat), ((nextV (nextS (nextS (nextS (nextS (nextS (nextS (nextS s))))))) 9 : Int) : Rat) / ((2 : Int) : Rat)) = spotV s)))) (fun (h7 : ¬ (decide (nextV (nextS (nextS (nextS (nextS (nextS (nextS s)))))) 4 = 4 - 1) = true)) => And.intro (by unfold spotS oneS; simp only [if_pos (show nextV (nextS s) 4 = 3 from (yd h1)), if_neg (show ¬ nextV (nextS (nextS (nextS (nextS s)))) 4 = 3 from (yd' h5)), if_neg (show ¬ nextV (nextS (nextS (nextS (nextS (nextS (nextS s)))))) 4 = 3 from (yd' h7))] : nextS (nextS (nextS (nextS (nextS (nextS (nextS s)))))) = spotS s) ((by unfold spotV oneV oneS; simp only [if_pos (show nextV (nextS s) 4 = 3 from (yd h1)), if_neg (show ¬ nextV (nextS (nextS (nextS (nextS s)))) 4 = 3 from (yd' h5)), if_neg (show ¬ nextV (nextS (nextS (nextS (nextS (nextS (nextS s)))))) 4 = 3 from (yd' h7))] : (((nextV (nextS (nextS s)) 9 : Int) : Rat) / ((2 : Int) : Rat), ((nextV (nextS (nextS (nextS s))) 5 : Int) : Rat), ((nextV (nextS (nextS (nextS (nextS (nextS s))))) 5 : Int) : Rat)) = spotV s)))))))))) (fun (h8 : ¬ (decide (nextV (nextS s) 4 = 4 - 1) = true)) => I (by omega : (0 : Int) < 5) (I (by omega : (0 : Int) < 4) (And.intro (fun (h9 : decide (nextV (nextS (nextS (nextS s))) 4 = 4 - 1) = true) => I (by omega : (0 : Int) < 9) (I (by omega : (0 : Int) < 5) (I (by omega : (0 : Int) < 4) (And.intro (fun (h10 : decide (nextV (nextS (nextS (nextS (nextS (nextS (nextS s)))))) 4 = 4 - 1) = true) => I (by omega : (0 : Int) < 9) (And.intro (by unfold spotS oneS; simp only [if_neg (show ¬ nextV (nextS s) 4 = 3 from (yd' h8)), if_pos (show nextV (nextS (nextS (nextS s))) 4 = 3 from (yd h9)), if_pos (show nextV (nextS (nextS (nextS (nextS (nextS (nextS s)))))) 4 = 3 from (yd h10))] : nextS (nextS (nextS (nextS (nextS (nextS (nextS (nextS s))))))) = spotS s) ((by unfold spotV oneV oneS; simp only [if_neg (show ¬ nextV (nextS s) 4 = 3 from (yd' h8)), if_pos (show nextV (nextS (nextS (nextS s))) 4 = 3 from (yd h9)), if_pos (show nextV (nextS (nextS (nextS (nextS (nextS (nextS s)))))) 4 = 3 from (yd h10))] : (((nextV s 5 : Int) : Rat), ((nextV (nextS (nextS (nextS (nextS s)))) 9 : Int) : Rat) / ((2 : Int) : Rat), ((nextV (nextS (nextS (nextS (nextS (nextS (nextS (nextS s))))))) 9 : Int) : Rat) / ((2 : Int) : Rat)) = spotV s)))) (fun (h11 : ¬ (decide (nextV (nextS (nextS (nextS (nextS (nextS (nextS s)))))) 4 = 4 - 1) = true)) => And.intro (by unfold spotS oneS; simp only [if_neg (show ¬ nextV (nextS s) 4 = 3 from (yd' h8)), if_pos (show nextV (nextS (nextS (nextS s))) 4 = 3 from (yd h9)), if_neg (show ¬ nextV (nextS (nextS (nextS (nextS (nextS (nextS s)))))) 4 = 3 from (yd' h11))] : nextS (nextS (nextS (nextS (nextS (nextS (nextS s)))))) = spotS s) ((by unfold spotV oneV oneS; simp only [if_neg (show ¬ nextV (nextS s) 4 = 3 from (yd' h8)), if_pos (show nextV (nextS (nextS (nextS s))) 4 = 3 from (yd h9)), if_neg (show ¬ nextV (nextS (nextS (nextS (nextS (nextS (nextS s)))))) 4 = 3 from (yd' h11))] : (((nextV s 5 : Int) : Rat), ((nextV (nextS (nextS (nextS (nextS s)))) 9 : Int) : Rat) / ((2 : Int) : Rat), ((nextV (nextS (nextS (nextS (nextS (nextS s))))) 5 : Int) : Rat)) = spotV s))))))) (fun (h12 : ¬ (decide (nextV (nextS (nextS (nextS s))) 4 = 4 - 1) = true)) => I (by omega : (0 : Int) < 5) (I (by omega : (0 : Int) < 4) (And.intro (fun (h13 : decide (nextV (nextS (nextS (nextS (nextS (nextS s))))) 4 = 4 - 1) = true) => I (by omega : (0 : Int) < 9) (And.intro (by unfold spotS oneS; simp only [if_neg (show ¬ nextV (nextS s) 4 = 3 from (yd' h8)), if_neg (show ¬ nextV (nextS (nextS (nextS s))) 4 = 3 from (yd' h12)), if_pos (show nextV (nextS (nextS (nextS (nextS (nextS s))))) 4 = 3 from (yd h13))] : nextS (nextS (nextS (nextS (nextS (nextS (nextS s)))))) = spotS s) ((by unfold spotV oneV oneS; simp only [if_neg (show ¬ nextV (nextS s) 4 = 3 from (yd' h8)), if_neg (show ¬ nextV (nextS (nextS (nextS s))) 4 = 3 from (yd' h12)), if_pos (show nextV (nextS (nextS (nextS (nextS (nextS s))))) 4 = 3 from (yd h13))] : (((nextV s 5 : Int) : Rat), ((nextV (nextS (nextS s)) 5 : Int) : Rat), ((nextV (nextS (nextS (nextS (nextS (nextS (nextS s)))))) 9 : Int) : Rat) / ((2 : Int) : Rat)) = spotV s)))) (fun (h14 : ¬ (decide (nextV (nextS (nextS (nextS (nextS (nextS s))))) 4 = 4 - 1) = true)) => And.intro (by unfold spotS oneS; simp only [if_neg (show ¬ nextV (nextS s) 4 = 3 from (yd' h8)), if_neg (show ¬ nextV (nextS (nextS (nextS s))) 4 = 3 from (yd' h12)), if_neg (show ¬ nextV (nextS (nextS (nextS (nextS (nextS s))))) 4 = 3 from (yd' h14))] : nextS (nextS (nextS (nextS (nextS (nextS s))))) = spotS s) ((by unfold spotV oneV oneS; simp only [if_neg (show ¬ nextV (nextS s) 4 = 3 from (yd' h8)), if_neg (show ¬ nextV (nextS (nextS (nextS s))) 4 = 3 from (yd' h12)), if_neg (show ¬ nextV (nextS (nextS (nextS (nextS (nextS s))))) 4 = 3 from (yd' h14))] : (((nextV s 5 : Int) : Rat), ((nextV (nextS (nextS s)) 5 : Int) : Rat), ((nextV (nextS (nextS (nextS (nextS s)))) 5 : Int) : Rat)) = spotV s))))))))))))⟩)
abbrev dspot_c : CtrB Tryz.prog := FB.c dspot_k
abbrev dat3_i : FI := ⟨30, [(.int .i64), (.int .i64), (.int .i64)], [(.n 1099511627776), (.n 1099511627776), (.n 1099511627776)], fun _ => [], fun b z => (fun (x : Int) (y : Int) (z : Int) => .c (.agg [.dt tV3 (bV3 (max (Nat.log2 (b0 b).nb + 1) (max (Nat.log2 (b1 b).nb + 1) (Nat.log2 (b2 b).nb + 1)))) ((x : Rat), (y : Rat), (z : Rat))])) z.1 z.2.1 z.2.2⟩
theorem dat3_k : dat3_i.OK Tryz.prog := mkF hmix 14 Tryz.func30 rfl rfl (by decide) [(31, .c yint_c)] (fun _ => rfl) (fun _ => rfl) (fun _ _ => rfl) (fun (x : Int) (y : Int) (z : Int) b hx hp => v3_ok ⟨rat_le (int_bnd (Bnds.h3 hx).1.int) (by omega), rat_le (int_bnd (Bnds.h3 hx).2.1.int) (by omega), rat_le (int_bnd (Bnds.h3 hx).2.2.int) (by omega)⟩) (fun (x : Int) (y : Int) (z : Int) hx hp => by
 exact ⟨.nil, kcast (by kernel_rfl) ((rfl : ((x : Rat), (y : Rat), (z : Rat)) = (((x : Int) : Rat), ((y : Int) : Rat), ((z : Int) : Rat))))⟩)
abbrev dat3_c : Ctr Tryz.prog := FI.c dat3_k
end Go.Proofs.YtcjgaaibflcdiaaGreat.Sx

namespace Go.Proofs.YtcjgaaibflcdiaaGreat.Sx
open Go
set_option linter.unusedVariables false
theorem Cpy.step' {α : Type} {l out : List α} {i : Nat} (h : Cpy l out i) (d : α) (hi : i < l.length) {v : α} (hv : v = l.getD i d) : Cpy l (out.set i v) (i + 1) := by
  subst hv; exact h.step d hi
theorem Cpy.start' {α : Type} {l : List α} {n : Nat} (d : α) (hn : n = l.length) : Cpy l (List.replicate n d) 0 := by subst hn; exact Cpy.start d
def subL (p q : List Rat) : List Rat := List.zipWith (· - ·) p q
def addL (p q : List Rat) : List Rat := List.zipWith (· + ·) p q
def scaleL (c : Rat) (p : List Rat) : List Rat := p.map (c * ·)
theorem subL_len {p q : List Rat} (h : p.length = q.length) : (subL p q).length = p.length := by simp [subL, h]
theorem addL_len {p q : List Rat} (h : p.length = q.length) : (addL p q).length = p.length := by simp [addL, h]
theorem scaleL_len (c : Rat) (p : List Rat) : (scaleL c p).length = p.length := by simp [scaleL]
theorem subL_get {p q : List Rat} {i : Nat} (h : i < p.length) (k : i < q.length) : p.getD i 0 - q.getD i 0 = (subL p q).getD i 0 := by
  rw [getD_len h, getD_len k, getD_len (by simp [subL]; omega)]; simp [subL]
theorem addL_get {p q : List Rat} {i : Nat} (h : i < p.length) (k : i < q.length) : p.getD i 0 + q.getD i 0 = (addL p q).getD i 0 := by
  rw [getD_len h, getD_len k, getD_len (by simp [addL]; omega)]; simp [addL]
theorem scaleL_get {c : Rat} {p : List Rat} {i : Nat} (h : i < p.length) : c * p.getD i 0 = (scaleL c p).getD i 0 := by
  rw [getD_len h, getD_len (by simp [scaleL]; omega)]; simp [scaleL]
theorem Bnd.slm {b : Bd} {l : List Rat} (h : Bnd (.sl .rat) b l) : l.length ≤ b.len ∧ ∀ v ∈ l, Bnd .rat (.n b.mx) v := by
  have h1 := h.sl
  refine ⟨h1.1, fun v hv => rat_mx (h1.2 v hv) ?_⟩
  cases b with
  | s n e => exact Bd.nb_mx e
  | _ => simp [Bd.e, Bd.nb]
theorem subL_b {b c : Bd} {p q : List Rat} (hp : Bnd (.sl .rat) b p) (hq : Bnd (.sl .rat) c q) : Bnd (.sl .rat) (.s b.len (.n (b.mx + c.mx + 1))) (subL p q) := by
  refine ⟨by have := hp.slm.1; simp [subL]; omega, fun v hv => ?_⟩
  obtain ⟨i, hi, rfl⟩ := List.getElem_of_mem hv
  simp only [subL, List.getElem_zipWith]
  exact sub_b (hp.slm.2 _ (List.getElem_mem _)) (hq.slm.2 _ (List.getElem_mem _))
theorem addL_b {b c : Bd} {p q : List Rat} (hp : Bnd (.sl .rat) b p) (hq : Bnd (.sl .rat) c q) : Bnd (.sl .rat) (.s b.len (.n (b.mx + c.mx + 1))) (addL p q) := by
  refine ⟨by have := hp.slm.1; simp [addL]; omega, fun v hv => ?_⟩
  obtain ⟨i, hi, rfl⟩ := List.getElem_of_mem hv
  simp only [addL, List.getElem_zipWith]
  exact add_b (hp.slm.2 _ (List.getElem_mem _)) (hq.slm.2 _ (List.getElem_mem _))
theorem scaleL_b {b c : Bd} {x : Rat} {p : List Rat} (hx : Bnd .rat b x) (hp : Bnd (.sl .rat) c p) : Bnd (.sl .rat) (.s c.len (.n (b.mx + c.mx))) (scaleL x p) := by
  refine ⟨by have := hp.slm.1; simp [scaleL]; omega, fun v hv => ?_⟩
  obtain ⟨i, hi, rfl⟩ := List.getElem_of_mem hv
  simp only [scaleL, List.getElem_map]
  exact mul_b hx.ratM (hp.slm.2 _ (List.getElem_mem _))
def inG (f : Nat → Rat) (o : List Rat) (i : Nat) : Nat → List Rat
  | 0 => o
  | j + 1 => (inG f o i j).set (i + j) ((inG f o i j).getD (i + j) 0 + f j)
def outG (f : Nat → Nat → Rat) (o : List Rat) (n : Nat) : Nat → List Rat
  | 0 => o
  | i + 1 => inG (f i) (outG f o n i) i n
def divG (c : Nat → Rat) (o : List Rat) : Nat → List Rat
  | 0 => o
  | k + 1 => (divG c o k).set k ((divG c o k).getD k 0 / c k)
theorem inG_len (f : Nat → Rat) (o : List Rat) (i : Nat) : ∀ j, (inG f o i j).length = o.length
  | 0 => rfl
  | j + 1 => by simp [inG, inG_len f o i j]
theorem outG_len (f : Nat → Nat → Rat) (o : List Rat) (n : Nat) : ∀ i, (outG f o n i).length = o.length
  | 0 => rfl
  | i + 1 => by simp [outG, inG_len, outG_len f o n i]
theorem divG_len (c : Nat → Rat) (o : List Rat) : ∀ k, (divG c o k).length = o.length
  | 0 => rfl
  | k + 1 => by simp [divG, divG_len c o k]
theorem zero_bn (n : Nat) : Bnd .rat (.n n) (0 : Rat) := ⟨by show (0 : Nat) < _; exact Nat.pow_pos (by omega), by show 1 ≤ _; exact Nat.one_le_two_pow⟩
theorem getD_bn {l : List Rat} {m : Nat} (h : ∀ v ∈ l, Bnd .rat (.n m) v) (i : Nat) : Bnd .rat (.n m) (l.getD i 0) := by
  rw [List.getD_eq_getElem?_getD]
  cases hq : l[i]? with
  | none => exact zero_bn m
  | some u => exact h u (List.mem_of_getElem? hq)
theorem set_bn {l : List Rat} {m i : Nat} {v : Rat} (h : ∀ u ∈ l, Bnd .rat (.n m) u) (hv : Bnd .rat (.n m) v) : ∀ u ∈ l.set i v, Bnd .rat (.n m) u := fun u hu => by
  rcases List.mem_or_eq_of_mem_set hu with h' | rfl
  · exact h u h'
  · exact hv
theorem rep_bn (n m : Nat) : ∀ u ∈ List.replicate n (0 : Rat), Bnd .rat (.n m) u := fun u hu => by rw [List.eq_of_mem_replicate hu]; exact zero_bn m
theorem inG_b {f : Nat → Rat} {o : List Rat} {i m K : Nat} (ho : ∀ v ∈ o, Bnd .rat (.n m) v) (hf : ∀ j, Bnd .rat (.n K) (f j)) : ∀ j, ∀ v ∈ inG f o i j, Bnd .rat (.n (m + j * (K + 1))) v
  | 0 => by simpa [inG] using ho
  | j + 1 => by
    have ih := inG_b (i := i) ho hf j
    rw [inG]
    refine set_bn (fun u hu => rat_le (ih u hu) (by rw [Nat.add_mul]; omega)) (rat_le (add_b (getD_bn ih _) (hf j)) (by rw [Nat.add_mul]; omega))
theorem outG_b {f : Nat → Nat → Rat} {o : List Rat} {n K : Nat} (ho : ∀ v ∈ o, Bnd .rat (.n 0) v) (hf : ∀ i j, Bnd .rat (.n K) (f i j)) : ∀ i, ∀ v ∈ outG f o n i, Bnd .rat (.n (i * (n * (K + 1)))) v
  | 0 => by simpa [outG] using ho
  | i + 1 => by
    have ih := outG_b (n := n) ho hf i
    rw [outG]
    exact fun v hv => rat_le (inG_b ih (hf i) n v hv) (by rw [Nat.add_mul]; omega)
theorem div_b {x y : Rat} {a b : Nat} (hx : Bnd .rat (.n a) x) (hy : Bnd .rat (.n b) y) : Bnd .rat (.n (a + b)) (x / y) := quo_bnd hx hy
theorem divG_b {c : Nat → Rat} {o : List Rat} {m K : Nat} (ho : ∀ v ∈ o, Bnd .rat (.n m) v) (hc : ∀ k, Bnd .rat (.n K) (c k)) : ∀ k, (∀ v ∈ divG c o k, Bnd .rat (.n (m + K)) v) ∧ ∀ i, k ≤ i → (divG c o k).getD i 0 = o.getD i 0
  | 0 => ⟨fun v hv => rat_le (ho v hv) (by omega), fun _ _ => rfl⟩
  | k + 1 => by
    obtain ⟨h1, h2⟩ := divG_b ho hc k
    refine ⟨?_, fun i hi => ?_⟩
    · rw [divG]
      refine set_bn h1 ?_
      rw [h2 k (Nat.le_refl _)]
      exact div_b (getD_bn ho k) (hc k)
    · rw [divG, List.getD_eq_getElem?_getD, List.getElem?_set_ne (by omega), ← List.getD_eq_getElem?_getD]
      exact h2 i (by omega)
def chooseQ (n : Int) : Nat → Rat
  | 0 => ((1 : Int) : Rat)
  | k + 1 => chooseQ n k * (((n - (k : Int) : Int) : Rat) / (((k + 1 : Nat) : Int) : Rat))
theorem chooseQ_b {n : Int} (hn : n.natAbs ≤ 64) : ∀ {k : Nat}, k ≤ 64 → Bnd .rat (.n (1 + 8 * k)) (chooseQ n k)
  | 0, _ => ⟨by show (1 : Nat) < 2 ^ 1; omega, by show (1 : Nat) ≤ 2 ^ 1; omega⟩
  | k + 1, hk => by
    have h1 := make_bnd (n := n - (k : Int)) (d := ((k + 1 : Nat) : Int)) (b := 128) (c := 128) (by omega) (by omega)
    have e : max (Nat.log2 128 + 1) (Nat.log2 128 + 1) = 8 := by decide
    rw [e] at h1
    exact rat_le (mul_b (chooseQ_b hn (by omega)) h1) (by omega)
def c2 (i : Nat) : Rat := [1, 2, 1].getD i 0
def c4 (i : Nat) : Rat := [1, 4, 6, 4, 1].getD i 0
theorem getD_nb {b : Bd} {l : List Rat} (h : Bnd (.sl .rat) b l) (i : Nat) : Bnd .rat (.n b.mx) (l.getD i 0) := getD_bn h.slm.2 i
def mulT (p q : List Rat) (i j : Nat) : Rat := (c2 i * p.getD i 0) * (c2 j * q.getD j 0)
def mulL (p q : List Rat) : List Rat := divG c4 (outG (mulT p q) (List.replicate 5 0) 3 3) 5
theorem mulL_len (p q : List Rat) : (mulL p q).length = 5 := by rw [mulL, divG_len, outG_len]; rfl
theorem c2_b (i : Nat) : Bnd .rat (.n 2) (c2 i) := by
  refine getD_bn (fun v hv => ?_) i
  simp only [List.mem_cons, List.not_mem_nil, or_false] at hv
  rcases hv with rfl | rfl | rfl <;> exact ⟨by unfold lt2; decide, by unfold le2; decide⟩
theorem c4_b (i : Nat) : Bnd .rat (.n 3) (c4 i) := by
  refine getD_bn (fun v hv => ?_) i
  simp only [List.mem_cons, List.not_mem_nil, or_false] at hv
  rcases hv with rfl | rfl | rfl | rfl | rfl <;> exact ⟨by unfold lt2; decide, by unfold le2; decide⟩
theorem mulT_b {b c : Bd} {p q : List Rat} (hp : Bnd (.sl .rat) b p) (hq : Bnd (.sl .rat) c q) (i j : Nat) : Bnd .rat (.n (b.mx + c.mx + 4)) (mulT p q i j) :=
  rat_le (mul_b (mul_b (c2_b i) (getD_nb hp i)) (mul_b (c2_b j) (getD_nb hq j))) (by omega)
theorem mulL_b {b c : Bd} {p q : List Rat} (hp : Bnd (.sl .rat) b p) (hq : Bnd (.sl .rat) c q) : Bnd (.sl .rat) (.s 5 (.n (9 * (b.mx + c.mx + 5) + 3))) (mulL p q) := by
  refine ⟨by rw [mulL_len]; exact Nat.le_refl 5, fun v hv => ?_⟩
  have h := (divG_b (outG_b (n := 3) (rep_bn 5 0) (mulT_b hp hq) 3) c4_b 5).1 v hv
  exact rat_le h (by omega)
end Go.Proofs.YtcjgaaibflcdiaaGreat.Sx

namespace Go.Proofs.YtcjgaaibflcdiaaGreat.Sx
open Go
set_option linter.unusedVariables false
structure Acc (l p out : List Rat) (i : Nat) : Prop where
  hl : out.length = p.length
  hi : i ≤ p.length
  ht : out.take i = l.take i
  hd : ∀ k, i ≤ k → out.getD k 0 = p.getD k 0
theorem Acc.start (l p : List Rat) : Acc l p p 0 := ⟨rfl, by omega, by simp, fun _ _ => rfl⟩
theorem Acc.step {l p out : List Rat} {i : Nat} (h : Acc l p out i) (hl : l.length = p.length) (hi : i < p.length) {v : Rat} (hv : p.getD i 0 + v = l.getD i 0) : Acc l p (out.set i (out.getD i 0 + v)) (i + 1) := by
  have h1 := h.hl
  refine ⟨by simp [h1], by omega, ?_, fun k hk => ?_⟩
  · rw [set_take (by omega), take_snoc (l := l) (d := 0) (by omega), h.ht, h.hd i (Nat.le_refl _), hv]
  · rw [List.getD_eq_getElem?_getD, List.getElem?_set_ne (by omega), ← List.getD_eq_getElem?_getD]
    exact h.hd k (by omega)
theorem Acc.fin {l p out : List Rat} {i : Nat} (h : Acc l p out i) (hl : l.length = p.length) (hi : ¬ i < p.length) : out = l := by
  have h1 := h.hl
  have h2 := h.hi
  have := h.ht
  rwa [List.take_of_length_le (by omega), List.take_of_length_le (by omega)] at this
theorem Acc.bnd {l p out : List Rat} {i m : Nat} (h : Acc l p out i) {v : Rat} (hv : p.getD i 0 + v = l.getD i 0) (hb : ∀ u ∈ l, Bnd .rat (.n m) u) {M : Nat} (hM : m ≤ M) : Bnd .rat (.n M) (out.getD i 0 + v) := by
  rw [h.hd i (Nat.le_refl _), hv]; exact rat_le (getD_bn hb i) hM
structure Prod3 (f : Nat → Nat → Rat) (out : List Rat) (i : Nat) : Prop where
  h : out = outG f (List.replicate 5 0) 3 i
  hi : i ≤ 3
structure Prod3J (f : Nat → Nat → Rat) (o out : List Rat) (i j : Nat) : Prop where
  h : out = inG (f i) o i j
  hj : j ≤ 3
theorem Prod3.start (f : Nat → Nat → Rat) {n : Nat} (hn : n = 5) : Prod3 f (List.replicate n 0) 0 := by subst hn; exact ⟨rfl, by omega⟩
theorem Prod3.len {f : Nat → Nat → Rat} {out : List Rat} {i : Nat} (h : Prod3 f out i) : out.length = 5 := by rw [h.h, outG_len]; rfl
theorem Prod3J.len {f : Nat → Nat → Rat} {o out : List Rat} {i j : Nat} (h : Prod3J f o out i j) : out.length = o.length := by rw [h.h, inG_len]
theorem Prod3J.start (f : Nat → Nat → Rat) (o : List Rat) (i : Nat) : Prod3J f o o i 0 := ⟨rfl, by omega⟩
theorem Prod3J.step {f : Nat → Nat → Rat} {o out : List Rat} {i j k : Nat} {v : Rat} (h : Prod3J f o out i j) (hj : j < 3) (hk : k = i + j) (hv : v = f i j) : Prod3J f o (out.set k (out.getD k 0 + v)) i (j + 1) := by
  subst hk hv
  exact ⟨by rw [inG, ← h.h], by omega⟩
theorem Prod3J.fin {f : Nat → Nat → Rat} {o out : List Rat} {i j : Nat} (h0 : Prod3 f o i) (hi : i < 3) (h : Prod3J f o out i j) (hj : ¬ j < 3) : Prod3 f out (i + 1) := by
  have := h.hj
  refine ⟨?_, by omega⟩
  rw [outG, ← h0.h, h.h, show j = 3 by omega]
theorem Prod3.fin {f : Nat → Nat → Rat} {out : List Rat} {i : Nat} (h : Prod3 f out i) (hi : ¬ i < 3) : out = outG f (List.replicate 5 0) 3 3 := by
  have := h.hi
  rw [h.h, show i = 3 by omega]
theorem Prod3.bnd {f : Nat → Nat → Rat} {o out : List Rat} {i j k m M : Nat} {v : Rat} (h0 : Prod3 f o i) (h : Prod3J f o out i j) (hj : j < 3) (hv : v = f i j) (hf : ∀ i j, Bnd .rat (.n m) (f i j)) (hM : 12 * (m + 1) ≤ M) : Bnd .rat (.n M) (out.getD k 0 + v) := by
  have hi := h0.hi
  have h1 := outG_b (n := 3) (rep_bn 5 0) hf i
  rw [← h0.h] at h1
  have h2 := inG_b (i := i) h1 (hf i) j
  rw [← h.h] at h2
  subst hv
  refine rat_le (add_b (getD_bn h2 k) (hf i j)) ?_
  have : i * (3 * (m + 1)) ≤ 3 * (3 * (m + 1)) := Nat.mul_le_mul_right _ hi
  have : j * (m + 1) ≤ 2 * (m + 1) := Nat.mul_le_mul_right _ (by omega)
  omega
structure Div5 (c : Nat → Rat) (o out : List Rat) (k : Nat) : Prop where
  h : out = divG c o k
  hk : k ≤ 5
theorem Div5.start (c : Nat → Rat) (o : List Rat) : Div5 c o o 0 := ⟨rfl, by omega⟩
theorem Div5.len {c : Nat → Rat} {o out : List Rat} {k : Nat} (h : Div5 c o out k) : out.length = o.length := by rw [h.h, divG_len]
theorem Div5.step {c : Nat → Rat} {o out : List Rat} {k : Nat} (h : Div5 c o out k) (hk : k < 5) {v : Rat} (hv : v = c k) : Div5 c o (out.set k (out.getD k 0 / v)) (k + 1) := by
  subst hv; exact ⟨by rw [divG, ← h.h], by omega⟩
theorem Div5.fin {c : Nat → Rat} {o out : List Rat} {k : Nat} (h : Div5 c o out k) (hk : ¬ k < 5) : out = divG c o 5 := by
  have := h.hk
  rw [h.h, show k = 5 by omega]
theorem Div5.bnd {c : Nat → Rat} {o out : List Rat} {k m K M : Nat} {v : Rat} (h : Div5 c o out k) (hv : v = c k) (ho : ∀ u ∈ o, Bnd .rat (.n m) u) (hc : ∀ k, Bnd .rat (.n K) (c k)) (hM : m + K ≤ M) : Bnd .rat (.n M) (out.getD k 0 / v) := by
  subst hv
  rw [h.h, (divG_b ho hc k).2 k (Nat.le_refl _)]
  exact rat_le (div_b (getD_bn ho k) (hc k)) hM
structure Ch (n : Int) (c : Rat) (i : Nat) : Prop where
  h : c = chooseQ n i
theorem Ch.start (n : Int) : Ch n ((1 : Int) : Rat) 0 := ⟨rfl⟩
theorem Ch.step {n : Int} {c : Rat} {i : Nat} (h : Ch n c i) : Ch n (c * (((n - (i : Int) : Int) : Rat) / (((i + 1 : Nat) : Int) : Rat))) (i + 1) := ⟨by rw [chooseQ, ← h.h]⟩
theorem Ch.bnd {n : Int} {c : Rat} {i : Nat} (h : Ch n c i) (hn : n.natAbs ≤ 64) (hi : i < 64) : Bnd .rat (.n 520) (c * (((n - (i : Int) : Int) : Rat) / (((i + 1 : Nat) : Int) : Rat))) := by
  have := chooseQ_b hn (k := i + 1) (by omega)
  rw [(h.step).h]; exact rat_le this (by omega)
def pasIn : List Int → Nat → List Int
  | r, 0 => r
  | r, z + 1 => pasIn (r.set (z + 1) (r.getD (z + 1) 0 + r.getD z 0)) z
def pas : Nat → List Int
  | 0 => [1]
  | i + 1 => pasIn (pas i ++ [1]) i
def castL (l : List Int) : List Rat := l.map fun x : Int => (x : Rat)
theorem setI_get {l : List Int} {i k : Nat} {v : Int} (h : i < l.length) : (l.set i v).getD k 0 = if k = i then v else l.getD k 0 := by
  by_cases e : k = i
  · subst e; simp [List.getD_eq_getElem?_getD, h]
  · rw [if_neg e, List.getD_eq_getElem?_getD, List.getElem?_set_ne (by omega), ← List.getD_eq_getElem?_getD]
structure PasZ (i : Nat) (z : Int) (row : List Int) : Prop where
  h : pasIn row z.toNat = pas (i + 1)
  hl : row.length = i + 2
  hz : z ≤ i
  hb : ∀ k : Nat, (k : Int) ≤ z → (row.getD k 0).natAbs ≤ 2 ^ i
  hc : ∀ k : Nat, (row.getD k 0).natAbs ≤ 2 ^ (i + 1)
structure PasI (i : Nat) (row : List Int) : Prop where
  h : row = pas i
  hl : row.length = i + 1
  hb : ∀ k : Nat, (row.getD k 0).natAbs ≤ 2 ^ i
theorem PasI.start : PasI 0 [1] := ⟨rfl, rfl, fun k => by
  match k with
  | 0 => decide
  | k + 1 => simp⟩
theorem PasI.app {i : Nat} {row : List Int} (h : PasI i row) {z : Int} (hz : z = i) : PasZ i z (row ++ [1]) := by
  subst hz
  have hl := h.hl
  have hp : 1 ≤ 2 ^ i := Nat.one_le_two_pow
  have key : ∀ k : Nat, ((row ++ [1]).getD k 0).natAbs ≤ 2 ^ i := fun k => by
    rcases Nat.lt_trichotomy k row.length with e | e | e
    · have := h.hb k
      rwa [List.getD_eq_getElem?_getD, List.getElem?_append_left e, ← List.getD_eq_getElem?_getD]
    · subst e; simpa [List.getD_eq_getElem?_getD] using hp
    · rw [List.getD_eq_getElem?_getD, List.getElem?_eq_none (by simp; omega)]; simp
  refine ⟨?_, by simp [hl], by omega, fun k _ => key k, fun k => by rw [Nat.pow_succ]; have := key k; omega⟩
  rw [show ((i : Int)).toNat = i by omega, pas, h.h]
theorem PasZ.step {i : Nat} {z : Int} {row : List Int} (h : PasZ i z row) (hz : 0 < z) {k j : Nat} (hk : k = z.toNat) (hj : j = k - 1) : PasZ i (z - 1) (row.set k (row.getD k 0 + row.getD j 0)) ∧ (row.getD k 0 + row.getD j 0).natAbs ≤ 2 ^ (i + 1) := by
  subst hj
  have hl := h.hl
  have hz1 := h.hz
  have b1 := h.hb k (by omega)
  have b2 := h.hb (k - 1) (by omega)
  have b3 : (row.getD k 0 + row.getD (k - 1) 0).natAbs ≤ 2 ^ (i + 1) := by rw [Nat.pow_succ]; omega
  refine ⟨⟨?_, by simp [hl], by omega, fun q hq => ?_, fun q => ?_⟩, b3⟩
  · have := h.h
    rw [← hk, show k = (k - 1) + 1 by omega, pasIn] at this
    rw [← this, show (z - 1).toNat = k - 1 by omega, show k - 1 + 1 = k by omega]
  · rw [setI_get (by omega), if_neg (by omega)]; exact h.hb q (by omega)
  · rw [setI_get (by omega)]; split
    · exact b3
    · exact h.hc q
theorem PasZ.fin {i : Nat} {z : Int} {row : List Int} (h : PasZ i z row) (hz : ¬ 0 < z) : PasI (i + 1) row := by
  have := h.h
  rw [show z.toNat = 0 by omega, pasIn] at this
  exact ⟨this, h.hl, h.hc⟩
theorem pasI : ∀ i, PasI i (pas i)
  | 0 => PasI.start
  | i + 1 => by
    have h0 := (pasI i).app (z := i) rfl
    have key : ∀ (m : Nat) (row : List Int), PasZ i m row → PasI (i + 1) (pasIn row m) := by
      intro m
      induction m with
      | zero => intro row h; exact h.fin (by omega)
      | succ m ih =>
        intro row h
        rw [pasIn]
        have := (h.step (by omega) (k := m + 1) (j := m) (by omega) (by omega)).1
        rw [show ((m + 1 : Nat) : Int) - 1 = (m : Int) by omega] at this
        exact ih _ this
    exact key i _ h0
theorem castL_get {l : List Int} {i : Nat} (h : i < l.length) : ((l.getD i 0 : Int) : Rat) = (castL l).getD i 0 := by
  rw [getD_len h, getD_len (by simpa [castL] using h)]; simp [castL]
theorem castL_len (l : List Int) : (castL l).length = l.length := by simp [castL]
theorem pas_b {n : Nat} (hn : n ≤ 40) : Bnd (.sl .rat) (.s 64 (.n 41)) (castL (pas n)) := by
  have h := pasI n
  refine ⟨by rw [castL_len, h.hl]; show n + 1 ≤ 64; omega, fun v hv => ?_⟩
  obtain ⟨x, hx, rfl⟩ := List.mem_map.1 hv
  obtain ⟨k, hk, rfl⟩ := List.getElem_of_mem hx
  have h1 := h.hb k
  rw [getD_len hk] at h1
  have h2 := Nat.pow_le_pow_right (show 0 < 2 by omega) hn
  have := int_bnd (v := (pas n)[k]) (b := 2 ^ 40) (by omega)
  have e : Nat.log2 (2 ^ 40) + 1 = 41 := by decide +kernel
  rwa [e] at this
theorem pas2 : ∀ i, i < 3 → (castL (pas 2)).getD i 0 = c2 i
  | 0, _ => by decide +kernel
  | 1, _ => by decide +kernel
  | 2, _ => by decide +kernel
theorem pas4 : ∀ i, i < 5 → (castL (pas 4)).getD i 0 = c4 i
  | 0, _ => by decide +kernel
  | 1, _ => by decide +kernel
  | 2, _ => by decide +kernel
  | 3, _ => by decide +kernel
  | 4, _ => by decide +kernel
theorem mulT_p {p q : List Rat} {i j : Nat} (hi : i < 3) (hj : j < 3) : (castL (pas 2)).getD i 0 * p.getD i 0 * ((castL (pas 2)).getD j 0 * q.getD j 0) = mulT p q i j := by
  rw [pas2 i hi, pas2 j hj]; rfl
end Go.Proofs.YtcjgaaibflcdiaaGreat.Sx

namespace Go.Proofs.YtcjgaaibflcdiaaGreat.Sx
open Go Go.Proofs
set_option linter.unusedVariables false
set_option linter.unusedSimpArgs false
set_option maxRecDepth 20000
set_option maxHeartbeats 4000000
abbrev bcopied_i : FI := ⟨205, [(.sl .rat)], [(.s 65536 (.n 1073741824))], fun _ => [], fun b z => (fun (l : List Rat) => .c (.one (.dt (.sl .rat) (b0 b) l))) z⟩
theorem bcopied_k : bcopied_i.OK Tryz.prog := mkF hmix 24 Tryz.func205 rfl rfl (by decide) [(52, .c raddp_c)] (fun _ => rfl) (fun _ => rfl) (fun _ _ => rfl) (fun (l : List Rat) b hx hp => one_ok (Bnds.h1 hx) rfl) (fun (l : List Rat) hx hp => by
 have hl0 : l.length ≤ 65536 := hx.1
 exact ⟨.h 1 2 (.mk (.arr .rat (.n 1073741825))) (.loop [.s 11 (.nat .i64) (.n 65536), .a 8 .rat (.n 1073741825)] (fun ((i, out) : Nat × List Rat) => Cpy l out i) (fun ((i, out) : Nat × List Rat) => l.length - i) (fun ((i, out) : Nat × List Rat) => .cond (.nil) (.pre 999999 (.frz 8 true [2]) (.nil)))), kcast (by kernel_rfl) (I (by omega : l.length = l.length) (I (Cpy.start' _ rfl : Cpy l (List.replicate l.length (0 : Rat)) 0) (fun (i : Nat) (out : List Rat) (hb1 : HB [.s 11 (.nat .i64) (.n 65536), .a 8 .rat (.n 1073741825)] (i, out)) (hI : Cpy l out i) => have hv4 := (show i ≤ 65536 from hb1.1); have hIl := hI.hl; have hIi := hI.hi; And.intro (fun (h2 : i < l.length) => I (by omega : i < l.length) (I (by omega : i < l.length) (I (by omega : i < out.length) (I (show (i + 1) ≤ 65536 by omega : Bnd (.nat .i64) (.n 65536) (i + 1)) (And.intro (hI.step' 0 (by omega) (Rat.add_zero _) : Cpy l (out.set i ((l.getD i 0) + 0)) (i + 1)) (by omega : l.length - (i + 1) < l.length - i)))))) (fun (h3 : ¬ (i < l.length)) => I (by omega : l.length = out.length) ((hI.fin (by omega) : out = l))))))⟩)
abbrev bcopied_c : Ctr Tryz.prog := FI.c bcopied_k
abbrev bup_i : FI := ⟨200, [(.sl .rat), (.int .i64)], [(.s 65536 (.n 1073741824)), (.n 1099511627776)], fun z => (fun (l : List Rat) (m : Int) => [(l.length : Int) = m + 1]) z.1 z.2, fun b z => (fun (l : List Rat) (m : Int) => .c (.one (.dt (.sl .rat) (b0 b) l))) z.1 z.2⟩
theorem bup_k : bup_i.OK Tryz.prog := mkF hmix 81 Tryz.func200 rfl rfl (by decide) [(205, .c bcopied_c)] (fun _ => rfl) (fun _ => rfl) (fun _ _ => rfl) (fun (l : List Rat) (m : Int) b hx hp => one_ok (Bnds.h2 hx).1 rfl) (fun (l : List Rat) (m : Int) hx hp => by
 have hl0 : l.length ≤ 65536 := hx.1.1
 have hx1 : Int.natAbs m ≤ 1099511627776 := hx.2
 have hp0 : (l.length : Int) = m + 1 := hp _ (List.mem_cons_self)
 exact ⟨.cond (.cond (.dead) (.nil)) (.nil), kcast (by kernel_rfl) (And.intro (fun (h1 : 0 < l.length) => And.intro (fun (h2 : ((l.length : Nat) : Int) ≤ m) => (by omega : False)) (fun (h3 : ¬ (((l.length : Nat) : Int) ≤ m)) => (Eq.refl l))) (fun (h4 : ¬ (0 < l.length)) => (Eq.refl l)))⟩)
abbrev bup_c : Ctr Tryz.prog := FI.c bup_k
abbrev bsubb_i : FI := ⟨165, [(.sl .rat), (.sl .rat), (.fn 51)], [(.s 65536 (.n 1073741824)), (.s 65536 (.n 1073741824)), .u], fun z => (fun (p : List Rat) (q : List Rat) (u : Unit) => [p.length = q.length]) z.1 z.2.1 z.2.2, fun b z => (fun (p : List Rat) (q : List Rat) (u : Unit) => .c (.one (.dt (.sl .rat) (.s ((b0 b).len) (.n ((b0 b).mx + (b1 b).mx + 1))) (subL p q)))) z.1 z.2.1 z.2.2⟩
theorem bsubb_k : bsubb_i.OK Tryz.prog := mkF hmix 48 Tryz.func165 rfl rfl (by decide) [(51, .c rsub_c), (200, .c bup_c)] (fun _ => rfl) (fun _ => rfl) (fun _ _ => rfl) (fun (p : List Rat) (q : List Rat) (u : Unit) b hx hp => one_ok (subL_b (Bnds.h3 hx).1 (Bnds.h3 hx).2.1) rfl) (fun (p : List Rat) (q : List Rat) (u : Unit) hx hp => by
 have hl0 : p.length ≤ 65536 := hx.1.1
 have hl1 : q.length ≤ 65536 := hx.2.1.1
 have hp0 : p.length = q.length := hp _ (List.mem_cons_self)
 exact ⟨.h 3 5 (.mk (.arr .rat (.n 2147483649))) (.loop [.s 30 (.nat .i64) (.n 65536), .a 27 .rat (.n 2147483649)] (fun ((i, out) : Nat × List Rat) => Cpy (subL p q) out i) (fun ((i, out) : Nat × List Rat) => p.length - i) (fun ((i, out) : Nat × List Rat) => .cond (.nil) (.pre 999999 (.frz 27 true [6]) (.nil)))), kcast (by kernel_rfl) (I (by omega : (p.length : Int) = (max ((p.length : Nat) : Int) ((q.length : Nat) : Int)) - 1 + 1) (I (by omega : (q.length : Int) = (max ((p.length : Nat) : Int) ((q.length : Nat) : Int)) - 1 + 1) (I (by omega : min p.length q.length = min p.length q.length) (I (Cpy.start' _ (by rw [subL_len hp0]; omega) : Cpy (subL p q) (List.replicate (min p.length q.length) (0 : Rat)) 0) (fun (i : Nat) (out : List Rat) (hb1 : HB [.s 30 (.nat .i64) (.n 65536), .a 27 .rat (.n 2147483649)] (i, out)) (hI : Cpy (subL p q) out i) => have hv4 := (show i ≤ 65536 from hb1.1); have hIl := hI.hl; have hIi := hI.hi; have hIn := subL_len hp0; And.intro (fun (h2 : i < min p.length q.length) => I (by omega : i < p.length) (I (by omega : i < q.length) (I (by omega : i < min p.length q.length) (I (by omega : i < out.length) (I (show (i + 1) ≤ 65536 by omega : Bnd (.nat .i64) (.n 65536) (i + 1)) (And.intro (hI.step' 0 (by rw [subL_len hp0]; omega) (subL_get (by omega) (by omega)) : Cpy (subL p q) (out.set i ((p.getD i 0) - (q.getD i 0))) (i + 1)) (by omega : p.length - (i + 1) < p.length - i))))))) (fun (h3 : ¬ (i < min p.length q.length)) => I (by omega : min p.length q.length = out.length) ((hI.fin (by rw [hIn]; omega) : out = subL p q))))))))⟩)
abbrev bsubb_c : Ctr Tryz.prog := FI.c bsubb_k
abbrev baddb_i : FI := ⟨165, [(.sl .rat), (.sl .rat), (.fn 52)], [(.s 65536 (.n 1073741824)), (.s 65536 (.n 1073741824)), .u], fun z => (fun (p : List Rat) (q : List Rat) (u : Unit) => [p.length = q.length]) z.1 z.2.1 z.2.2, fun b z => (fun (p : List Rat) (q : List Rat) (u : Unit) => .c (.one (.dt (.sl .rat) (.s ((b0 b).len) (.n ((b0 b).mx + (b1 b).mx + 1))) (addL p q)))) z.1 z.2.1 z.2.2⟩
theorem baddb_k : baddb_i.OK Tryz.prog := mkF hmix 48 Tryz.func165 rfl rfl (by decide) [(52, .c raddp_c), (200, .c bup_c)] (fun _ => rfl) (fun _ => rfl) (fun _ _ => rfl) (fun (p : List Rat) (q : List Rat) (u : Unit) b hx hp => one_ok (addL_b (Bnds.h3 hx).1 (Bnds.h3 hx).2.1) rfl) (fun (p : List Rat) (q : List Rat) (u : Unit) hx hp => by
 have hl0 : p.length ≤ 65536 := hx.1.1
 have hl1 : q.length ≤ 65536 := hx.2.1.1
 have hp0 : p.length = q.length := hp _ (List.mem_cons_self)
 exact ⟨.h 3 5 (.mk (.arr .rat (.n 2147483649))) (.loop [.s 30 (.nat .i64) (.n 65536), .a 27 .rat (.n 2147483649)] (fun ((i, out) : Nat × List Rat) => Cpy (addL p q) out i) (fun ((i, out) : Nat × List Rat) => p.length - i) (fun ((i, out) : Nat × List Rat) => .cond (.nil) (.pre 999999 (.frz 27 true [6]) (.nil)))), kcast (by kernel_rfl) (I (by omega : (p.length : Int) = (max ((p.length : Nat) : Int) ((q.length : Nat) : Int)) - 1 + 1) (I (by omega : (q.length : Int) = (max ((p.length : Nat) : Int) ((q.length : Nat) : Int)) - 1 + 1) (I (by omega : min p.length q.length = min p.length q.length) (I (Cpy.start' _ (by rw [addL_len hp0]; omega) : Cpy (addL p q) (List.replicate (min p.length q.length) (0 : Rat)) 0) (fun (i : Nat) (out : List Rat) (hb1 : HB [.s 30 (.nat .i64) (.n 65536), .a 27 .rat (.n 2147483649)] (i, out)) (hI : Cpy (addL p q) out i) => have hv4 := (show i ≤ 65536 from hb1.1); have hIl := hI.hl; have hIi := hI.hi; have hIn := addL_len hp0; And.intro (fun (h2 : i < min p.length q.length) => I (by omega : i < p.length) (I (by omega : i < q.length) (I (by omega : i < min p.length q.length) (I (by omega : i < out.length) (I (show (i + 1) ≤ 65536 by omega : Bnd (.nat .i64) (.n 65536) (i + 1)) (And.intro (hI.step' 0 (by rw [addL_len hp0]; omega) (addL_get (by omega) (by omega)) : Cpy (addL p q) (out.set i ((p.getD i 0) + (q.getD i 0))) (i + 1)) (by omega : p.length - (i + 1) < p.length - i))))))) (fun (h3 : ¬ (i < min p.length q.length)) => I (by omega : min p.length q.length = out.length) ((hI.fin (by rw [hIn]; omega) : out = addL p q))))))))⟩)
abbrev baddb_c : Ctr Tryz.prog := FI.c baddb_k
abbrev bsub_i : FI := ⟨105, [(.sl .rat), (.sl .rat)], [(.s 65536 (.n 1073741824)), (.s 65536 (.n 1073741824))], fun z => (fun (p : List Rat) (q : List Rat) => [p.length = q.length]) z.1 z.2, fun b z => (fun (p : List Rat) (q : List Rat) => .c (.one (.dt (.sl .rat) (.s ((b0 b).len) (.n ((b0 b).mx + (b1 b).mx + 1))) (subL p q)))) z.1 z.2⟩
theorem bsub_k : bsub_i.OK Tryz.prog := mkF hmix 8 Tryz.func105 rfl rfl (by decide) [(165, .c bsubb_c)] (fun _ => rfl) (fun _ => rfl) (fun _ _ => rfl) (fun (p : List Rat) (q : List Rat) b hx hp => one_ok (subL_b (Bnds.h2 hx).1 (Bnds.h2 hx).2) rfl) (fun (p : List Rat) (q : List Rat) hx hp => by
 have hl0 : p.length ≤ 65536 := hx.1.1
 have hl1 : q.length ≤ 65536 := hx.2.1
 have hp0 : p.length = q.length := hp _ (List.mem_cons_self)
 exact ⟨.nil, kcast (by kernel_rfl) (I (by omega : p.length = q.length) ((Eq.refl (subL p q))))⟩)
abbrev bsub_c : Ctr Tryz.prog := FI.c bsub_k
abbrev badd_i : FI := ⟨108, [(.sl .rat), (.sl .rat)], [(.s 65536 (.n 1073741824)), (.s 65536 (.n 1073741824))], fun z => (fun (p : List Rat) (q : List Rat) => [p.length = q.length]) z.1 z.2, fun b z => (fun (p : List Rat) (q : List Rat) => .c (.one (.dt (.sl .rat) (.s ((b0 b).len) (.n ((b0 b).mx + (b1 b).mx + 1))) (addL p q)))) z.1 z.2⟩
theorem badd_k : badd_i.OK Tryz.prog := mkF hmix 8 Tryz.func108 rfl rfl (by decide) [] (fun _ => rfl) (fun _ => rfl) (fun _ _ => rfl) (fun (p : List Rat) (q : List Rat) b hx hp => one_ok (addL_b (Bnds.h2 hx).1 (Bnds.h2 hx).2) rfl) (fun (p : List Rat) (q : List Rat) hx hp => by
 have hl0 : p.length ≤ 65536 := hx.1.1
 have hl1 : q.length ≤ 65536 := hx.2.1
 have hp0 : p.length = q.length := hp _ (List.mem_cons_self)
 exact ⟨.h 1 2 (.c baddb_c) (.nil), kcast (by kernel_rfl) (I (by omega : p.length = q.length) ((Eq.refl (addL p q))))⟩)
abbrev badd_c : Ctr Tryz.prog := FI.c badd_k
abbrev bscale_i : FI := ⟨106, [.rat, (.sl .rat)], [(.n 1073741824), (.s 65536 (.n 1073741824))], fun _ => [], fun b z => (fun (x : Rat) (p : List Rat) => .c (.one (.dt (.sl .rat) (.s ((b1 b).len) (.n ((b0 b).mx + (b1 b).mx))) (scaleL x p)))) z.1 z.2⟩
theorem bscale_k : bscale_i.OK Tryz.prog := mkF hmix 26 Tryz.func106 rfl rfl (by decide) [(89, .c rmul_c)] (fun _ => rfl) (fun _ => rfl) (fun _ _ => rfl) (fun (x : Rat) (p : List Rat) b hx hp => one_ok (scaleL_b (Bnds.h2 hx).1 (Bnds.h2 hx).2) rfl) (fun (x : Rat) (p : List Rat) hx hp => by
 have hl1 : p.length ≤ 65536 := hx.2.1
 exact ⟨.h 1 2 (.mk (.arr .rat (.n 2147483648))) (.loop [.s 13 (.nat .i64) (.n 65536), .a 10 .rat (.n 2147483648)] (fun ((i, out) : Nat × List Rat) => Cpy (scaleL x p) out i) (fun ((i, out) : Nat × List Rat) => p.length - i) (fun ((i, out) : Nat × List Rat) => .cond (.nil) (.pre 999999 (.frz 10 true [4]) (.nil)))), kcast (by kernel_rfl) (I (by omega : p.length = p.length) (I (Cpy.start' _ (scaleL_len x p).symm : Cpy (scaleL x p) (List.replicate p.length (0 : Rat)) 0) (fun (i : Nat) (out : List Rat) (hb1 : HB [.s 13 (.nat .i64) (.n 65536), .a 10 .rat (.n 2147483648)] (i, out)) (hI : Cpy (scaleL x p) out i) => have hv4 := (show i ≤ 65536 from hb1.1); have hIl := hI.hl; have hIi := hI.hi; have hIn := scaleL_len x p; And.intro (fun (h2 : i < p.length) => I (by omega : i < p.length) (I (by omega : i < p.length) (I (by omega : i < out.length) (I (show (i + 1) ≤ 65536 by omega : Bnd (.nat .i64) (.n 65536) (i + 1)) (And.intro (hI.step' 0 (by rw [scaleL_len]; omega) (scaleL_get (by omega)) : Cpy (scaleL x p) (out.set i (x * (p.getD i 0))) (i + 1)) (by omega : p.length - (i + 1) < p.length - i)))))) (fun (h3 : ¬ (i < p.length)) => I (by omega : p.length = out.length) ((hI.fin (by rw [hIn]; omega) : out = scaleL x p))))))⟩)
abbrev bscale_c : Ctr Tryz.prog := FI.c bscale_k
abbrev bquo_i : FI := ⟨167, [.rat, .rat], [(.n 68719476736), (.n 68719476736)], fun _ => [], fun b z => (fun (x : Rat) (y : Rat) => .c (.agg [.dt .rat (.n ((b0 b).nb + (b1 b).nb)) (x / y)])) z.1 z.2⟩
theorem bquo_k : bquo_i.OK Tryz.prog := mkF hmix 14 Tryz.func167 rfl rfl (by decide) [(54, .c rquo_c)] (fun _ => rfl) (fun _ => rfl) (fun _ _ => rfl) (fun (x : Rat) (y : Rat) b hx hp => agg_rat (quo_bnd (Bnds.h2 hx).1 (Bnds.h2 hx).2)) (fun (x : Rat) (y : Rat) hx hp => by
 exact ⟨.nil, kcast (by kernel_rfl) ((Eq.refl (x / y)))⟩)
abbrev bquo_c : Ctr Tryz.prog := FI.c bquo_k
end Go.Proofs.YtcjgaaibflcdiaaGreat.Sx

namespace Go.Proofs.YtcjgaaibflcdiaaGreat.Sx
open Go Go.Proofs
set_option linter.unusedVariables false
set_option linter.unusedSimpArgs false
set_option maxRecDepth 20000
set_option maxHeartbeats 4000000
end Go.Proofs.YtcjgaaibflcdiaaGreat.Sx

namespace Go.Proofs.YtcjgaaibflcdiaaGreat.Sx
open Go Go.Proofs
set_option linter.unusedVariables false
set_option linter.unusedSimpArgs false
set_option maxRecDepth 20000
set_option maxHeartbeats 4000000
end Go.Proofs.YtcjgaaibflcdiaaGreat.Sx

namespace Go.Proofs.YtcjgaaibflcdiaaGreat.Sx
open Go Go.Proofs
set_option linter.unusedVariables false
set_option linter.unusedSimpArgs false
set_option maxRecDepth 20000
set_option maxHeartbeats 4000000
abbrev bchoose_i : FI := ⟨166, [(.nat .i64)], [(.n 1099511627776)], fun z => (fun (m : Nat) => [m ≤ 40]) z, fun b z => (fun (m : Nat) => .c (.one (.dt (.sl .rat) (.s (64) (.n (41))) (castL (pas m))))) z⟩
theorem bchoose_k : bchoose_i.OK Tryz.prog := mkF hmix 51 Tryz.func166 rfl rfl (by decide) [(56, .c rint_c)] (fun _ => rfl) (fun _ => rfl) (fun _ _ => rfl) (fun (m : Nat) b hx hp => one_ok (pas_b (hp _ List.mem_cons_self)) rfl) (fun (m : Nat) hx hp => by
 have hx0 : m ≤ 1099511627776 := hx
 have hp0 : m ≤ 40 := hp _ (List.mem_cons_self)
 exact ⟨.h 1 0 (.mk (.gro (.int .i64) (.n 1099511627776))) (.loop [.s 10 (.nat .i64) (.n 64), .g 3 90003 (.int .i64) (.n 1099511627776) 64] (fun ((i, row) : Nat × List Int) => PasI i row ∧ i ≤ m) (fun ((i, row) : Nat × List Int) => m - i) (fun ((i, row) : Nat × List Int) => .cond (.h 4 1 (.mk (.im (.int .i64) (.n 1))) (.loop [.s 4 (.int .i64) (.n 64), .bk 14 (.int .i64) (.n 1099511627776)] (fun ((z, row2) : Int × List Int) => PasZ i z row2) (fun ((z, row2) : Int × List Int) => z.toNat) (fun ((z, row2) : Int × List Int) => .cond (.h 8 2 (.ix z.toNat) (.h 8 7 (.ix (z.toNat - 1)) (.h 8 10 (.ix z.toNat) (.nil)))) (.nil)))) (.h 10 2 (.mk (.arr .rat (.n 41))) (.loop [.s 39 (.nat .i64) (.n 64), .a 36 .rat (.n 41)] (fun ((j, out) : Nat × List Rat) => Cpy (castL row) out j) (fun ((j, out) : Nat × List Rat) => row.length - j) (fun ((j, out) : Nat × List Rat) => .cond (.nil) (.pre 999999 (.frz 36 true [2]) (.nil))))))), kcast (by kernel_rfl) (I (by (try simp only [List.length_append, List.length_cons, List.length_nil]) <;> omega : 1 = [1].length) (I (⟨PasI.start, Nat.zero_le _⟩ : PasI 0 [1] ∧ 0 ≤ m) (fun (i : Nat) (row : List Int) (hb1 : HB [.s 10 (.nat .i64) (.n 64), .g 3 90003 (.int .i64) (.n 1099511627776) 64] (i, row)) (hP : PasI i row ∧ i ≤ m) => have hv12 := (show i ≤ 64 from hb1.1); have hv13 := (show row.length ≤ 64 from hb1.2.1); have hPl := hP.1.hl; have hPi := hP.2; And.intro (fun (h2 : i < m) => I (by omega : row.length = row.length) (I (show Int.natAbs (((row.length + [1].length : Nat) : Int) - 2) ≤ 64 by (try simp only [List.length_append, List.length_cons, List.length_nil]) <;> omega : Bnd (.int .i64) (.n 64) (((row.length + [1].length : Nat) : Int) - 2)) (I (hP.1.app (by simp; omega) : PasZ i (((row.length + [1].length : Nat) : Int) - 2) (row ++ [1])) (fun (z : Int) (row2 : List Int) (hb3 : HB [.s 4 (.int .i64) (.n 64), .bk 14 (.int .i64) (.n 1099511627776)] (z, row2)) (hZ : PasZ i z row2) => have hv6 := (show Int.natAbs z ≤ 64 from hb3.1); have hZl := hZ.hl; have hZz := hZ.hz; And.intro (fun (h4 : 0 < z) => have hZs := hZ.step (by omega) rfl rfl; I (by omega : z = ((z.toNat : Nat) : Int)) (I (by (try simp only [List.length_append, List.length_cons, List.length_nil]) <;> omega : z.toNat < row.length + [1].length) (I (by omega : z.toNat < row2.length) (I (by omega : z - 1 = ((z.toNat - 1 : Nat) : Int)) (I (by (try simp only [List.length_append, List.length_cons, List.length_nil]) <;> omega : z.toNat - 1 < row.length + [1].length) (I (by omega : z.toNat - 1 < row2.length) (I (by omega : z = ((z.toNat : Nat) : Int)) (I (by (try simp only [List.length_append, List.length_cons, List.length_nil]) <;> omega : z.toNat < row.length + [1].length) (I (by omega : z.toNat < row2.length) (I ((show Int.natAbs _ ≤ _ from Nat.le_trans hZs.2 (show 2 ^ (i + 1) ≤ 2 ^ 40 from Nat.pow_le_pow_right (by omega) (by omega))) : Bnd (.int .i64) (.n 1099511627776) ((row2.getD z.toNat 0) + (row2.getD (z.toNat - 1) 0))) (I (show Int.natAbs (z - 1) ≤ 64 by omega : Bnd (.int .i64) (.n 64) (z - 1)) (And.intro ((hZ.step (by omega) rfl rfl).1 : PasZ i (z - 1) (row2.set z.toNat ((row2.getD z.toNat 0) + (row2.getD (z.toNat - 1) 0)))) (by omega : (z - 1).toNat < z.toNat))))))))))))) (fun (h5 : ¬ (0 < z)) => I (show (i + 1) ≤ 64 by omega : Bnd (.nat .i64) (.n 64) (i + 1)) (I (by (try simp only [List.length_append, List.length_cons, List.length_nil]) <;> omega : row.length + [1].length = row2.length) (I (by (try simp only [List.length_append, List.length_cons, List.length_nil]) <;> omega : row.length + [1].length ≤ 64) (And.intro (⟨hZ.fin (by omega), by omega⟩ : PasI (i + 1) row2 ∧ (i + 1) ≤ m) (by omega : m - (i + 1) < m - i))))))))) (fun (h7 : ¬ (i < m)) => I (by omega : row.length = row.length) (I (Cpy.start' _ (castL_len row).symm : Cpy (castL row) (List.replicate row.length (0 : Rat)) 0) (fun (j : Nat) (out : List Rat) (hb8 : HB [.s 39 (.nat .i64) (.n 64), .a 36 .rat (.n 41)] (j, out)) (hI : Cpy (castL row) out j) => have hv11 := (show j ≤ 64 from hb8.1); have hIl := hI.hl; have hIi := hI.hi; have hIn := castL_len row; And.intro (fun (h9 : j < row.length) => I (by omega : j < row.length) (I (by omega : j < row.length) (I (by omega : j < row.length) (I (by omega : j < out.length) (I (show (j + 1) ≤ 64 by omega : Bnd (.nat .i64) (.n 64) (j + 1)) (And.intro (hI.step' 0 (by rw [castL_len]; omega) (castL_get (by omega)) : Cpy (castL row) (out.set j ((row.getD j 0 : Int) : Rat)) (j + 1)) (by omega : row.length - (j + 1) < row.length - j))))))) (fun (h10 : ¬ (j < row.length)) => I (by omega : row.length = out.length) ((by rw [hI.fin (by rw [hIn]; omega), hP.1.h, show i = m by omega] : out = castL (pas m))))))))))⟩)
abbrev bchoose_c : Ctr Tryz.prog := FI.c bchoose_k
end Go.Proofs.YtcjgaaibflcdiaaGreat.Sx

namespace Go.Proofs.YtcjgaaibflcdiaaGreat.Sx
open Go Go.Proofs
set_option linter.unusedVariables false
set_option linter.unusedSimpArgs false
set_option maxRecDepth 20000
set_option maxHeartbeats 4000000
abbrev bmul_i : FI := ⟨107, [(.sl .rat), (.sl .rat)], [(.s 65536 (.n 268435456)), (.s 65536 (.n 268435456))], fun z => (fun (p : List Rat) (q : List Rat) => [p.length = 3, q.length = 3]) z.1 z.2, fun b z => (fun (p : List Rat) (q : List Rat) => .tup [.one (.dt (.sl .rat) (.s 5 (.n (9 * ((b0 b).mx + (b1 b).mx + 5) + 3))) (mulL p q)), .one (.kn .i64 0)]) z.1 z.2⟩
theorem bmul_k : bmul_i.OK Tryz.prog := mkF hmix 108 Tryz.func107 rfl rfl (by decide) [(52, .c raddp_c), (89, .c rmul_c), (166, .c bchoose_c), (167, .c bquo_c)] (fun _ => rfl) (fun _ => rfl) (fun _ _ => rfl) (fun (p : List Rat) (q : List Rat) b hx hp => tup_cons (one_ok (mulL_b (Bnds.h2 hx).1 (Bnds.h2 hx).2) rfl) (tup_cons kn_ok tup_nil)) (fun (p : List Rat) (q : List Rat) hx hp => by
 have hl0 : p.length ≤ 65536 := hx.1.1
 have hl1 : q.length ≤ 65536 := hx.2.1
 have hp0 : p.length = 3 := hp _ (List.mem_cons_self)
 have hp1 : q.length = 3 := hp _ (List.mem_cons_of_mem _ (List.mem_cons_self))
 exact ⟨.h 1 2 (.i .sub) (.h 1 5 (.i .sub) (.cond (.dead) (.cond (.dead) (.cond (.dead) (.h 7 4 (.mk (.arr .rat (.n 6442451004))) (.loop [.s 47 (.nat .i64) (.n 65536), .a 44 .rat (.n 6442451004)] (fun ((i, out) : Nat × List Rat) => Prod3 (mulT p q) out i) (fun ((i, out) : Nat × List Rat) => 3 - i) (fun ((i, out) : Nat × List Rat) => .cond (.loop [.s 61 (.nat .i64) (.n 65536), .a 44 .rat (.n 6442451004)] (fun ((j, out2) : Nat × List Rat) => Prod3J (mulT p q) out out2 i j) (fun ((j, out2) : Nat × List Rat) => 3 - j) (fun ((j, out2) : Nat × List Rat) => .nil)) (.loop [.s 91 (.nat .i64) (.n 65536), .a 44 .rat (.n 6442451604)] (fun ((k, out3) : Nat × List Rat) => Div5 c4 (outG (mulT p q) (List.replicate 5 0) 3 3) out3 k) (fun ((k, out3) : Nat × List Rat) => 5 - k) (fun ((k, out3) : Nat × List Rat) => .cond (.nil) (.pre 999999 (.frz 44 true [4, 5]) (.nil))))))))))), kcast (by kernel_rfl) (I (by omega : 1 ≤ p.length) (I (by omega : 1 ≤ q.length) (And.intro (fun (h1 : 40 < (p.length - 1) + (q.length - 1)) => (by omega : False)) (fun (h2 : ¬ (40 < (p.length - 1) + (q.length - 1))) => And.intro (fun (h3 : p.length - 1 < 0) => (by omega : False)) (fun (h4 : ¬ (p.length - 1 < 0)) => And.intro (fun (h5 : q.length - 1 < 0) => (by omega : False)) (fun (h6 : ¬ (q.length - 1 < 0)) => I (by omega : p.length - 1 ≤ 40) (I (by omega : q.length - 1 ≤ 40) (I (by omega : (p.length - 1) + (q.length - 1) ≤ 40) (I (by omega : ((p.length - 1) + (q.length - 1)) + 1 = ((p.length - 1) + (q.length - 1)) + 1) (have hA := (show (castL (pas (p.length - 1))).length = 3 from by rw [castL_len, (pasI _).hl]; omega); have hB := (show (castL (pas (q.length - 1))).length = 3 from by rw [castL_len, (pasI _).hl]; omega); have hD := (show (castL (pas ((p.length - 1) + (q.length - 1)))).length = 5 from by rw [castL_len, (pasI _).hl]; omega); I (Prod3.start _ (by omega) : Prod3 (mulT p q) (List.replicate (((p.length - 1) + (q.length - 1)) + 1) (0 : Rat)) 0) (fun (i : Nat) (out : List Rat) (hb7 : HB [.s 47 (.nat .i64) (.n 65536), .a 44 .rat (.n 6442451004)] (i, out)) (hM : Prod3 (mulT p q) out i) => have hv18 := (show i ≤ 65536 from hb7.1); have hMi := hM.hi; have hMl := hM.len; And.intro (fun (h8 : i < p.length) => I (by omega : i < (castL (pas (p.length - 1))).length) (I (by omega : i < p.length) (I (Prod3J.start _ _ _ : Prod3J (mulT p q) out out i 0) (fun (j : Nat) (out2 : List Rat) (hb9 : HB [.s 61 (.nat .i64) (.n 65536), .a 44 .rat (.n 6442451004)] (j, out2)) (hJ : Prod3J (mulT p q) out out2 i j) => have hv12 := (show j ≤ 65536 from hb9.1); have hJi := hJ.hj; have hJl := hJ.len; And.intro (fun (h10 : j < q.length) => have hv := (show (castL (pas (p.length - 1))).getD i 0 * p.getD i 0 * ((castL (pas (q.length - 1))).getD j 0 * q.getD j 0) = mulT p q i j from by rw [show p.length - 1 = 2 by omega, show q.length - 1 = 2 by omega]; exact mulT_p (by omega) (by omega)); I (by omega : i + j < ((p.length - 1) + (q.length - 1)) + 1) (I (by omega : i + j < out2.length) (I (by omega : j < (castL (pas (q.length - 1))).length) (I (by omega : j < q.length) (I (by omega : i + j < ((p.length - 1) + (q.length - 1)) + 1) (I (by omega : i + j < out2.length) (I (Prod3.bnd hM hJ (by omega) hv (mulT_b hx.1 hx.2) (show _ ≤ _ by decide) : Bnd .rat (.n 6442451004) ((out2.getD (i + j) 0) + ((((castL (pas (p.length - 1))).getD i 0) * (p.getD i 0)) * (((castL (pas (q.length - 1))).getD j 0) * (q.getD j 0))))) (I (show (j + 1) ≤ 65536 by omega : Bnd (.nat .i64) (.n 65536) (j + 1)) (And.intro (hJ.step (by omega) rfl hv : Prod3J (mulT p q) out (out2.set (i + j) ((out2.getD (i + j) 0) + ((((castL (pas (p.length - 1))).getD i 0) * (p.getD i 0)) * (((castL (pas (q.length - 1))).getD j 0) * (q.getD j 0))))) i (j + 1)) (by omega : 3 - (j + 1) < 3 - j)))))))))) (fun (h11 : ¬ (j < q.length)) => I (show (i + 1) ≤ 65536 by omega : Bnd (.nat .i64) (.n 65536) (i + 1)) (And.intro (Prod3J.fin hM (by omega) hJ (by omega) : Prod3 (mulT p q) out2 (i + 1)) (by omega : 3 - (i + 1) < 3 - i))))))) (fun (h13 : ¬ (i < p.length)) => I (by rw [hM.fin (by omega)]; exact Div5.start _ _ : Div5 c4 (outG (mulT p q) (List.replicate 5 0) 3 3) out 0) (fun (k : Nat) (out3 : List Rat) (hb14 : HB [.s 91 (.nat .i64) (.n 65536), .a 44 .rat (.n 6442451604)] (k, out3)) (hK : Div5 c4 (outG (mulT p q) (List.replicate 5 0) 3 3) out3 k) => have hv17 := (show k ≤ 65536 from hb14.1); have hKi := hK.hk; have hKl := hK.len.trans (outG_len _ _ _ _); have hKl5 := (show out3.length = 5 from hKl); And.intro (fun (h15 : k < ((p.length - 1) + (q.length - 1)) + 1) => have hw := (show (castL (pas ((p.length - 1) + (q.length - 1)))).getD k 0 = c4 k from by rw [show (p.length - 1) + (q.length - 1) = 4 by omega]; exact pas4 k (by omega)); I (by omega : k < ((p.length - 1) + (q.length - 1)) + 1) (I (by omega : k < out3.length) (I (by omega : k < (castL (pas ((p.length - 1) + (q.length - 1)))).length) (I (by omega : k < ((p.length - 1) + (q.length - 1)) + 1) (I (by omega : k < out3.length) (I (hK.bnd hw (outG_b (n := 3) (rep_bn 5 0) (mulT_b hx.1 hx.2) 3) c4_b (show _ ≤ _ by decide) : Bnd .rat (.n 6442451604) ((out3.getD k 0) / ((castL (pas ((p.length - 1) + (q.length - 1)))).getD k 0))) (I (show (k + 1) ≤ 65536 by omega : Bnd (.nat .i64) (.n 65536) (k + 1)) (And.intro (hK.step (by omega) hw : Div5 c4 (outG (mulT p q) (List.replicate 5 0) 3 3) (out3.set k ((out3.getD k 0) / ((castL (pas ((p.length - 1) + (q.length - 1)))).getD k 0))) (k + 1)) (by omega : 5 - (k + 1) < 5 - k))))))))) (fun (h16 : ¬ (k < ((p.length - 1) + (q.length - 1)) + 1)) => I (by omega : ((p.length - 1) + (q.length - 1)) + 1 = out3.length) (((hK.fin (by omega)).trans rfl : out3 = mulL p q))))))))))))))))⟩)
abbrev bmul_c : Ctr Tryz.prog := FI.c bmul_k
end Go.Proofs.YtcjgaaibflcdiaaGreat.Sx

namespace Go.Proofs.YtcjgaaibflcdiaaGreat.Sx
open Go
set_option linter.unusedVariables false
abbrev Pole : Type := V3 × Rat
abbrev tPole : Ty := .pr tV3 .rat
abbrev Four : Type := Rat × Rat × Rat × Rat
abbrev tFour : Ty := .pr .rat (.pr .rat (.pr .rat .rat))
abbrev bFour (m : Nat) : Bd := .p (.n m) (.p (.n m) (.p (.n m) (.n m)))
abbrev Curve : Type := Int × List Rat × List Pole
abbrev tCurve : Ty := .pr (.int .i64) (.pr (.sl .rat) (.sl tPole))
abbrev Four4 : Type := List Rat × List Rat × List Rat × List Rat
abbrev tFour4 : Ty := .pr (.sl .rat) (.pr (.sl .rat) (.pr (.sl .rat) (.sl .rat)))
abbrev bFour4 (k m : Nat) : Bd := .p (.s k (.n m)) (.p (.s k (.n m)) (.p (.s k (.n m)) (.s k (.n m))))
def fourV (p : Pole) : Four := (p.2 * p.1.1, p.2 * p.1.2.1, p.2 * p.1.2.2, p.2)
theorem Bnd.pole {b : Bd} {x : Pole} (h : Bnd tPole b x) : (Bnd .rat (.n b.mx) x.1.1 ∧ Bnd .rat (.n b.mx) x.1.2.1 ∧ Bnd .rat (.n b.mx) x.1.2.2) ∧ Bnd .rat (.n b.mx) x.2 := by
  have h1 := h.pr
  have h2 := h1.1.v3
  have := b.l_mx; have := b.r_mx
  exact ⟨⟨rat_le h2.1 (by omega), rat_le h2.2.1 (by omega), rat_le h2.2.2 (by omega)⟩, rat_mx h1.2 (Nat.le_trans (Bd.nb_mx _) (by omega))⟩
theorem fourV_b {b : Bd} {p : Pole} (h : Bnd tPole b p) : Bnd tFour (bFour (2 * b.mx)) (fourV p) := by
  have h := h.pole
  exact ⟨rat_le (mul_b h.2 h.1.1) (by omega), rat_le (mul_b h.2 h.1.2.1) (by omega), rat_le (mul_b h.2 h.1.2.2) (by omega), rat_le h.2 (by omega)⟩
def numsV (l : List Pole) : Four4 := (l.map fun p => (fourV p).1, l.map fun p => (fourV p).2.1, l.map fun p => (fourV p).2.2.1, l.map fun p => (fourV p).2.2.2)
theorem map3 {α : Type} {l : List α} (d : α) (h : l.length = 3) (f : α → Rat) : (([f (l.getD 0 d)] ++ [f (l.getD 1 d)]) ++ [f (l.getD 2 d)]) = l.map f := by
  match l, h with
  | [a, b, c], _ => rfl
theorem Bnd.slm' {t : Ty} {b : Bd} {l : List t.den} (h : Bnd (.sl t) b l) : ∀ v ∈ l, Bnd t b.e v := h.sl.2
theorem Bd.e_mx (b : Bd) : b.e.mx ≤ b.mx := by cases b <;> simp [Bd.e, Bd.mx]
theorem map_bn {l : List Pole} {b : Bd} {m : Nat} (h : ∀ v ∈ l, Bnd tPole b v) (hl : l.length = 3) (f : Pole → Rat) (hf : ∀ p, Bnd tPole b p → Bnd .rat (.n m) (f p)) : Bnd (.sl .rat) (.s 3 (.n m)) (l.map f) := by
  refine ⟨by simp [hl], fun v hv => ?_⟩
  obtain ⟨p, hp, rfl⟩ := List.mem_map.1 hv
  exact hf p (h p hp)
theorem numsV_b {b : Bd} {c : Curve} (h : Bnd tCurve b c) (hl : c.2.2.length = 3) : Bnd tFour4 (bFour4 3 (2 * b.mx)) (numsV c.2.2) := by
  have h1 := h.pr.2.pr.2.sl.2
  have := b.r_mx; have := b.r.r_mx; have := b.r.r.e_mx
  have key : ∀ p, Bnd tPole b.r.r.e p → Bnd tFour (bFour (2 * b.mx)) (fourV p) := fun p hp => by
    have h := fourV_b hp
    exact ⟨rat_le h.1 (by omega), rat_le h.2.1 (by omega), rat_le h.2.2.1 (by omega), rat_le h.2.2.2 (by omega)⟩
  exact ⟨map_bn h1 hl _ fun p hp => (key p hp).1, map_bn h1 hl _ fun p hp => (key p hp).2.1, map_bn h1 hl _ fun p hp => (key p hp).2.2.1, map_bn h1 hl _ fun p hp => (key p hp).2.2.2⟩
end Go.Proofs.YtcjgaaibflcdiaaGreat.Sx

namespace Go.Proofs.YtcjgaaibflcdiaaGreat.Sx
open Go Go.Proofs
set_option linter.unusedVariables false
set_option linter.unusedSimpArgs false
set_option maxRecDepth 20000
set_option maxHeartbeats 4000000
abbrev sof_i : FI := ⟨164, [(.pr (.pr .rat (.pr .rat .rat)) .rat)], [(.p (.p (.n 16777216) (.p (.n 16777216) (.n 16777216))) (.n 16777216))], fun _ => [], fun b z => (fun (p : (Rat × Rat × Rat) × Rat) => .c (.agg [.dt tFour (bFour (2 * (b0 b).mx)) (fourV p)])) z⟩
theorem sof_k : sof_i.OK Tryz.prog := mkF hmix 25 Tryz.func164 rfl rfl (by decide) [(52, .c raddp_c), (89, .c rmul_c)] (fun _ => rfl) (fun _ => rfl) (fun _ _ => rfl) (fun (p : (Rat × Rat × Rat) × Rat) b hx hp => agg_ok (fourV_b (Bnds.h1 hx))) (fun (p : (Rat × Rat × Rat) × Rat) hx hp => by
 exact ⟨.nil, kcast (by kernel_rfl) ((by rw [Rat.add_zero]; rfl : (p.2 * p.1.1, p.2 * p.1.2.1, p.2 * p.1.2.2, p.2 + 0) = fourV p))⟩)
abbrev sof_c : Ctr Tryz.prog := FI.c sof_k
abbrev xlift_i : FI := ⟨128, [(.pr (.pr .rat (.pr .rat .rat)) .rat)], [(.p (.p (.n 16777216) (.p (.n 16777216) (.n 16777216))) (.n 16777216))], fun _ => [], fun b z => (fun (p : (Rat × Rat × Rat) × Rat) => .c (.agg [.dt tFour (bFour (2 * (b0 b).mx)) (fourV p)])) z⟩
theorem xlift_k : xlift_i.OK Tryz.prog := mkF hmix 18 Tryz.func128 rfl rfl (by decide) [(43, .c vscaler_c)] (fun _ => rfl) (fun _ => rfl) (fun _ _ => rfl) (fun (p : (Rat × Rat × Rat) × Rat) b hx hp => agg_ok (fourV_b (Bnds.h1 hx))) (fun (p : (Rat × Rat × Rat) × Rat) hx hp => by
 exact ⟨.nil, kcast (by kernel_rfl) ((rfl : ((scaleV p.2 p.1).1, ((scaleV p.2 p.1).2).1, ((scaleV p.2 p.1).2).2, p.2) = fourV p))⟩)
abbrev xlift_c : Ctr Tryz.prog := FI.c xlift_k
abbrev bnums_i : FI := ⟨104, [(.pr (.int .i64) (.pr (.sl .rat) (.sl (.pr (.pr .rat (.pr .rat .rat)) .rat))))], [(.p (.n 1048576) (.p (.s 1048576 (.n 16777216)) (.s 1048576 (.p (.p (.n 16777216) (.p (.n 16777216) (.n 16777216))) (.n 16777216)))))], fun z => (fun (c : Int × List Rat × List ((Rat × Rat × Rat) × Rat)) => [c.2.2.length = 3]) z, fun b z => (fun (c : Int × List Rat × List ((Rat × Rat × Rat) × Rat)) => .c (.agg [.dt tFour4 (bFour4 3 (2 * (b0 b).mx)) (numsV c.2.2)])) z⟩
theorem bnums_k : bnums_i.OK Tryz.prog := mkF hmix 32 Tryz.func104 rfl rfl (by decide) [(164, .c sof_c)] (fun _ => rfl) (fun _ => rfl) (fun _ _ => rfl) (fun (c : Int × List Rat × List ((Rat × Rat × Rat) × Rat)) b hx hp => agg_ok (numsV_b (Bnds.h1 hx) (hp _ List.mem_cons_self))) (fun (c : Int × List Rat × List ((Rat × Rat × Rat) × Rat)) hx hp => by
 have hp0 : c.2.2.length = 3 := hp _ (List.mem_cons_self)
 exact ⟨.cond (.h 8 5 (.mk (.im .rat (.n 33554434))) (.h 8 6 (.to (.gro .rat (.n 33554434)) 91001) (.h 8 5 (.mk (.im .rat (.n 33554434))) (.h 8 6 (.to (.gro .rat (.n 33554434)) 91002) (.h 8 5 (.mk (.im .rat (.n 33554434))) (.h 8 6 (.to (.gro .rat (.n 33554434)) 91003) (.h 8 5 (.mk (.im .rat (.n 33554434))) (.h 8 6 (.to (.gro .rat (.n 33554434)) 91004) (.cond (.h 8 5 (.mk (.im .rat (.n 33554434))) (.h 8 6 (.to (.gro .rat (.n 33554434)) 91005) (.h 8 5 (.mk (.im .rat (.n 33554434))) (.h 8 6 (.to (.gro .rat (.n 33554434)) 91006) (.h 8 5 (.mk (.im .rat (.n 33554434))) (.h 8 6 (.to (.gro .rat (.n 33554434)) 91007) (.h 8 5 (.mk (.im .rat (.n 33554434))) (.h 8 6 (.to (.gro .rat (.n 33554434)) 91008) (.cond (.h 8 5 (.mk (.im .rat (.n 33554434))) (.h 8 6 (.to (.gro .rat (.n 33554434)) 91009) (.h 8 5 (.mk (.im .rat (.n 33554434))) (.h 8 6 (.to (.gro .rat (.n 33554434)) 91010) (.h 8 5 (.mk (.im .rat (.n 33554434))) (.h 8 6 (.to (.gro .rat (.n 33554434)) 91011) (.h 8 5 (.mk (.im .rat (.n 33554434))) (.h 8 6 (.to (.gro .rat (.n 33554434)) 91012) (.cond (.dead) (.pre 999999 (.frz 91009 true [2]) (.pre 999999 (.frz 91010 true [2]) (.pre 999999 (.frz 91011 true [2]) (.pre 999999 (.frz 91012 true [2]) (.nil)))))))))))))) (.dead)))))))))) (.dead)))))))))) (.dead), kcast (by kernel_rfl) (And.intro (fun (h1 : 0 < c.2.2.length) => I (by omega : 0 < c.2.2.length) (And.intro (fun (h2 : 1 < c.2.2.length) => I (by omega : 1 < c.2.2.length) (I (by (try simp only [List.length_append, List.length_cons, List.length_nil]) <;> omega : [(fourV (c.2.2.getD 0 ((0, (0, 0)), 0))).1].length = [(fourV (c.2.2.getD 0 ((0, (0, 0)), 0))).1].length) (I (by (try simp only [List.length_append, List.length_cons, List.length_nil]) <;> omega : [((fourV (c.2.2.getD 0 ((0, (0, 0)), 0))).2).1].length = [((fourV (c.2.2.getD 0 ((0, (0, 0)), 0))).2).1].length) (I (by (try simp only [List.length_append, List.length_cons, List.length_nil]) <;> omega : [(((fourV (c.2.2.getD 0 ((0, (0, 0)), 0))).2).2).1].length = [(((fourV (c.2.2.getD 0 ((0, (0, 0)), 0))).2).2).1].length) (I (by (try simp only [List.length_append, List.length_cons, List.length_nil]) <;> omega : [(((fourV (c.2.2.getD 0 ((0, (0, 0)), 0))).2).2).2].length = [(((fourV (c.2.2.getD 0 ((0, (0, 0)), 0))).2).2).2].length) (And.intro (fun (h3 : 2 < c.2.2.length) => I (by omega : 2 < c.2.2.length) (I (by (try simp only [List.length_append, List.length_cons, List.length_nil]) <;> omega : ([(fourV (c.2.2.getD 0 ((0, (0, 0)), 0))).1].length) + [(fourV (c.2.2.getD 1 ((0, (0, 0)), 0))).1].length = ([(fourV (c.2.2.getD 0 ((0, (0, 0)), 0))).1] ++ [(fourV (c.2.2.getD 1 ((0, (0, 0)), 0))).1]).length) (I (by (try simp only [List.length_append, List.length_cons, List.length_nil]) <;> omega : ([((fourV (c.2.2.getD 0 ((0, (0, 0)), 0))).2).1].length) + [((fourV (c.2.2.getD 1 ((0, (0, 0)), 0))).2).1].length = ([((fourV (c.2.2.getD 0 ((0, (0, 0)), 0))).2).1] ++ [((fourV (c.2.2.getD 1 ((0, (0, 0)), 0))).2).1]).length) (I (by (try simp only [List.length_append, List.length_cons, List.length_nil]) <;> omega : ([(((fourV (c.2.2.getD 0 ((0, (0, 0)), 0))).2).2).1].length) + [(((fourV (c.2.2.getD 1 ((0, (0, 0)), 0))).2).2).1].length = ([(((fourV (c.2.2.getD 0 ((0, (0, 0)), 0))).2).2).1] ++ [(((fourV (c.2.2.getD 1 ((0, (0, 0)), 0))).2).2).1]).length) (I (by (try simp only [List.length_append, List.length_cons, List.length_nil]) <;> omega : ([(((fourV (c.2.2.getD 0 ((0, (0, 0)), 0))).2).2).2].length) + [(((fourV (c.2.2.getD 1 ((0, (0, 0)), 0))).2).2).2].length = ([(((fourV (c.2.2.getD 0 ((0, (0, 0)), 0))).2).2).2] ++ [(((fourV (c.2.2.getD 1 ((0, (0, 0)), 0))).2).2).2]).length) (And.intro (fun (h4 : 3 < c.2.2.length) => (by omega : False)) (fun (h5 : ¬ (3 < c.2.2.length)) => I (by (try simp only [List.length_append, List.length_cons, List.length_nil]) <;> omega : (([(fourV (c.2.2.getD 0 ((0, (0, 0)), 0))).1].length) + [(fourV (c.2.2.getD 1 ((0, (0, 0)), 0))).1].length) + [(fourV (c.2.2.getD 2 ((0, (0, 0)), 0))).1].length = (([(fourV (c.2.2.getD 0 ((0, (0, 0)), 0))).1] ++ [(fourV (c.2.2.getD 1 ((0, (0, 0)), 0))).1]) ++ [(fourV (c.2.2.getD 2 ((0, (0, 0)), 0))).1]).length) (I (by (try simp only [List.length_append, List.length_cons, List.length_nil]) <;> omega : (([(fourV (c.2.2.getD 0 ((0, (0, 0)), 0))).1].length) + [(fourV (c.2.2.getD 1 ((0, (0, 0)), 0))).1].length) + [(fourV (c.2.2.getD 2 ((0, (0, 0)), 0))).1].length = (([(fourV (c.2.2.getD 0 ((0, (0, 0)), 0))).1] ++ [(fourV (c.2.2.getD 1 ((0, (0, 0)), 0))).1]) ++ [(fourV (c.2.2.getD 2 ((0, (0, 0)), 0))).1]).length) (I (by (try simp only [List.length_append, List.length_cons, List.length_nil]) <;> omega : (([((fourV (c.2.2.getD 0 ((0, (0, 0)), 0))).2).1].length) + [((fourV (c.2.2.getD 1 ((0, (0, 0)), 0))).2).1].length) + [((fourV (c.2.2.getD 2 ((0, (0, 0)), 0))).2).1].length = (([((fourV (c.2.2.getD 0 ((0, (0, 0)), 0))).2).1] ++ [((fourV (c.2.2.getD 1 ((0, (0, 0)), 0))).2).1]) ++ [((fourV (c.2.2.getD 2 ((0, (0, 0)), 0))).2).1]).length) (I (by (try simp only [List.length_append, List.length_cons, List.length_nil]) <;> omega : (([((fourV (c.2.2.getD 0 ((0, (0, 0)), 0))).2).1].length) + [((fourV (c.2.2.getD 1 ((0, (0, 0)), 0))).2).1].length) + [((fourV (c.2.2.getD 2 ((0, (0, 0)), 0))).2).1].length = (([((fourV (c.2.2.getD 0 ((0, (0, 0)), 0))).2).1] ++ [((fourV (c.2.2.getD 1 ((0, (0, 0)), 0))).2).1]) ++ [((fourV (c.2.2.getD 2 ((0, (0, 0)), 0))).2).1]).length) (I (by (try simp only [List.length_append, List.length_cons, List.length_nil]) <;> omega : (([(((fourV (c.2.2.getD 0 ((0, (0, 0)), 0))).2).2).1].length) + [(((fourV (c.2.2.getD 1 ((0, (0, 0)), 0))).2).2).1].length) + [(((fourV (c.2.2.getD 2 ((0, (0, 0)), 0))).2).2).1].length = (([(((fourV (c.2.2.getD 0 ((0, (0, 0)), 0))).2).2).1] ++ [(((fourV (c.2.2.getD 1 ((0, (0, 0)), 0))).2).2).1]) ++ [(((fourV (c.2.2.getD 2 ((0, (0, 0)), 0))).2).2).1]).length) (I (by (try simp only [List.length_append, List.length_cons, List.length_nil]) <;> omega : (([(((fourV (c.2.2.getD 0 ((0, (0, 0)), 0))).2).2).1].length) + [(((fourV (c.2.2.getD 1 ((0, (0, 0)), 0))).2).2).1].length) + [(((fourV (c.2.2.getD 2 ((0, (0, 0)), 0))).2).2).1].length = (([(((fourV (c.2.2.getD 0 ((0, (0, 0)), 0))).2).2).1] ++ [(((fourV (c.2.2.getD 1 ((0, (0, 0)), 0))).2).2).1]) ++ [(((fourV (c.2.2.getD 2 ((0, (0, 0)), 0))).2).2).1]).length) (I (by (try simp only [List.length_append, List.length_cons, List.length_nil]) <;> omega : (([(((fourV (c.2.2.getD 0 ((0, (0, 0)), 0))).2).2).2].length) + [(((fourV (c.2.2.getD 1 ((0, (0, 0)), 0))).2).2).2].length) + [(((fourV (c.2.2.getD 2 ((0, (0, 0)), 0))).2).2).2].length = (([(((fourV (c.2.2.getD 0 ((0, (0, 0)), 0))).2).2).2] ++ [(((fourV (c.2.2.getD 1 ((0, (0, 0)), 0))).2).2).2]) ++ [(((fourV (c.2.2.getD 2 ((0, (0, 0)), 0))).2).2).2]).length) (I (by (try simp only [List.length_append, List.length_cons, List.length_nil]) <;> omega : (([(((fourV (c.2.2.getD 0 ((0, (0, 0)), 0))).2).2).2].length) + [(((fourV (c.2.2.getD 1 ((0, (0, 0)), 0))).2).2).2].length) + [(((fourV (c.2.2.getD 2 ((0, (0, 0)), 0))).2).2).2].length = (([(((fourV (c.2.2.getD 0 ((0, (0, 0)), 0))).2).2).2] ++ [(((fourV (c.2.2.getD 1 ((0, (0, 0)), 0))).2).2).2]) ++ [(((fourV (c.2.2.getD 2 ((0, (0, 0)), 0))).2).2).2]).length) ((Prod.ext (map3 ((0, 0, 0), 0) hp0 fun p => (fourV p).1) (Prod.ext (map3 ((0, 0, 0), 0) hp0 fun p => (fourV p).2.1) (Prod.ext (map3 ((0, 0, 0), 0) hp0 fun p => (fourV p).2.2.1) (map3 ((0, 0, 0), 0) hp0 fun p => (fourV p).2.2.2))) : (([(fourV (c.2.2.getD 0 ((0, (0, 0)), 0))).1] ++ [(fourV (c.2.2.getD 1 ((0, (0, 0)), 0))).1]) ++ [(fourV (c.2.2.getD 2 ((0, (0, 0)), 0))).1], ([((fourV (c.2.2.getD 0 ((0, (0, 0)), 0))).2).1] ++ [((fourV (c.2.2.getD 1 ((0, (0, 0)), 0))).2).1]) ++ [((fourV (c.2.2.getD 2 ((0, (0, 0)), 0))).2).1], ([(((fourV (c.2.2.getD 0 ((0, (0, 0)), 0))).2).2).1] ++ [(((fourV (c.2.2.getD 1 ((0, (0, 0)), 0))).2).2).1]) ++ [(((fourV (c.2.2.getD 2 ((0, (0, 0)), 0))).2).2).1], ([(((fourV (c.2.2.getD 0 ((0, (0, 0)), 0))).2).2).2] ++ [(((fourV (c.2.2.getD 1 ((0, (0, 0)), 0))).2).2).2]) ++ [(((fourV (c.2.2.getD 2 ((0, (0, 0)), 0))).2).2).2]) = numsV c.2.2)))))))))))))))) (fun (h6 : ¬ (2 < c.2.2.length)) => (by omega : False)))))))) (fun (h7 : ¬ (1 < c.2.2.length)) => (by omega : False)))) (fun (h8 : ¬ (0 < c.2.2.length)) => (by omega : False)))⟩)
abbrev bnums_c : Ctr Tryz.prog := FI.c bnums_k
end Go.Proofs.YtcjgaaibflcdiaaGreat.Sx

namespace Go.Proofs.YtcjgaaibflcdiaaGreat.Sx
open Go
set_option linter.unusedVariables false
def isqGo (n : Nat) : Nat → Nat → Nat
  | 0, s => s
  | k + 1, s => if (s + 2 ^ k) * (s + 2 ^ k) ≤ n then isqGo n k (s + 2 ^ k) else isqGo n k s
def isq (n : Nat) : Nat := isqGo n (bl n) 0
theorem isqGo_spec {n : Nat} : ∀ {k s : Nat}, s * s ≤ n → n < (s + 2 ^ k) * (s + 2 ^ k) → isqGo n k s * isqGo n k s ≤ n ∧ n < (isqGo n k s + 1) * (isqGo n k s + 1)
  | 0, s, h1, h2 => ⟨h1, h2⟩
  | k + 1, s, h1, h2 => by
    rw [isqGo]
    split
    · rename_i h
      refine isqGo_spec h ?_
      rw [show s + 2 ^ k + 2 ^ k = s + 2 ^ (k + 1) by rw [Nat.pow_succ]; omega]; exact h2
    · rename_i h
      exact isqGo_spec h1 (by omega)
theorem isq_spec (n : Nat) : isq n * isq n ≤ n ∧ n < (isq n + 1) * (isq n + 1) := by
  refine isqGo_spec (by omega) ?_
  have h := bl_lt n
  have hp : 1 ≤ 2 ^ bl n := Nat.one_le_two_pow
  have := Nat.mul_le_mul_left (2 ^ bl n) hp
  simp only [Nat.zero_add]; omega
theorem sq_lt {a b : Nat} (h : a * a < b * b) : a < b := by
  apply Nat.lt_of_not_le
  intro hl
  have := Nat.mul_le_mul hl hl
  omega
theorem isq_of {n r : Nat} (h1 : r * r ≤ n) (h2 : n < (r + 1) * (r + 1)) : r = isq n := by
  obtain ⟨h3, h4⟩ := isq_spec n
  have := sq_lt (Nat.lt_of_le_of_lt h1 h4)
  have := sq_lt (Nat.lt_of_le_of_lt h3 h2)
  omega
theorem isq_le {n x : Nat} (h : n < (x + 1) * (x + 1)) : isq n ≤ x := by
  have := sq_lt (Nat.lt_of_le_of_lt (isq_spec n).1 h); omega
theorem isq_zero : isq 0 = 0 := rfl
theorem isq_self (n : Nat) : isq n ≤ n := by
  have h := (isq_spec n).1
  rcases Nat.eq_zero_or_pos (isq n) with e | e
  · omega
  · have := Nat.le_mul_of_pos_left (isq n) e; omega
structure Newt (n x : Nat) : Prop where
  hx : 0 < x
  hs : isq n ≤ x
theorem Newt.start {n : Nat} : Newt n (1 * 2 ^ ((bl n + 1) / 2)) := by
  refine ⟨by rw [Nat.one_mul]; exact Nat.pow_pos (by omega), isq_le ?_⟩
  have h := bl_lt n
  have h1 : 2 ^ bl n ≤ 2 ^ ((bl n + 1) / 2) * 2 ^ ((bl n + 1) / 2) := by rw [← Nat.pow_add]; exact Nat.pow_le_pow_right (by omega) (by omega)
  have h2 := Nat.mul_le_mul (Nat.le_add_right (1 * 2 ^ ((bl n + 1) / 2)) 1) (Nat.le_add_right (1 * 2 ^ ((bl n + 1) / 2)) 1)
  rw [Nat.one_mul] at *
  omega
theorem am_gm {s x : Nat} (h : x ≤ 2 * s) : (2 * s - x) * x ≤ s * s := by
  obtain ⟨d, hd⟩ : ∃ d : Int, (x : Int) = s + d := ⟨x - s, by omega⟩
  have e : ((2 * s - x : Nat) : Int) = s - d := by omega
  have h1 : (((2 * s - x) * x : Nat) : Int) = (s - d) * (s + d) := by rw [Int.natCast_mul, e, hd]
  have h2 : ((s * s : Nat) : Int) = s * s := by simp
  have h3 : (s - d) * (s + d) = s * s - d * d := by rw [Int.sub_mul, Int.mul_add, Int.mul_add, Int.mul_comm d s]; omega
  have h4 : 0 ≤ d * d := by
    rcases Int.le_total 0 d with hd | hd
    · exact Int.mul_nonneg hd hd
    · exact Int.mul_nonneg_of_nonpos_of_nonpos hd hd
  omega
theorem Newt.step {n x : Nat} (h : Newt n x) (hn : 0 < n) : Newt n ((x + n / x) / 2) := by
  have hs := (isq_spec n)
  have h1 : 1 ≤ isq n := by
    apply Nat.succ_le_of_lt
    apply Nat.pos_of_ne_zero
    intro e; rw [e] at hs; omega
  have key : isq n ≤ (x + n / x) / 2 := by
    rw [Nat.le_div_iff_mul_le (by omega)]
    rcases Nat.lt_or_ge (2 * isq n) x with e | e
    · generalize n / x = g; omega
    · have := am_gm e
      have h2 : 2 * isq n - x ≤ n / x := by rw [Nat.le_div_iff_mul_le h.hx]; omega
      generalize n / x = g at *
      omega
  exact ⟨by omega, key⟩
theorem Newt.fin {n x : Nat} (h : Newt n x) (hc : x ≤ (x + n / x) / 2) : x = isq n := by
  have h1 : x ≤ n / x := by omega
  rw [Nat.le_div_iff_mul_le h.hx] at h1
  have h2 := h.hs
  have := sq_lt (Nat.lt_of_le_of_lt h1 (isq_spec n).2)
  omega
def sc (r : Rat) (k : Nat) : Nat := r.num.natAbs * 2 ^ k * 2 ^ k / r.den
def scm (r : Rat) (k : Nat) : Bool := decide (0 < bl (r.num.natAbs * 2 ^ k * 2 ^ k % r.den))
theorem sc_b {r : Rat} {b : Bd} {k : Nat} (h : Bnd .rat b r) (hk : k ≤ 64) : lt2 (sc r k) (b.nb + 128) :=
  lt2_le (lt2_mono (show b.nb + k + k ≤ b.nb + 128 by omega) (lt2_up (lt2_up h.rat.1 (Nat.le_refl k)) (Nat.le_refl k))) (Nat.div_le_self _ _)
def rootLo (r : Rat) (k : Nat) : Rat := if r.num < 0 then 0 else sgQ false (isq (sc r k)) (2 ^ k)
theorem rootLo_b {r : Rat} {b : Bd} {k : Nat} (h : Bnd .rat b r) (hk : k ≤ 64) : Bnd .rat (.n (b.nb + 130)) (rootLo r k) := by
  unfold rootLo; split
  · exact zero_bn _
  · refine sgQ_bnd (lt2_mono (by omega) (lt2_le (sc_b h hk) (isq_self _))) ?_ (Nat.pow_pos (by omega))
    exact Nat.pow_le_pow_right (by omega) (by omega)
def hiN (r : Rat) (k : Nat) : Nat := if scm r k = true ∨ isq (sc r k) * isq (sc r k) < sc r k then isq (sc r k) + 1 else isq (sc r k)
def rootHi (r : Rat) (k : Nat) : Rat := if r.num < 0 then 0 else sgQ false (hiN r k) (2 ^ k)
theorem hiN_b {r : Rat} {b : Bd} {k : Nat} (h : Bnd .rat b r) (hk : k ≤ 64) : lt2 (hiN r k) (b.nb + 129) := by
  have h1 : hiN r k ≤ sc r k + 1 := by unfold hiN; have := isq_self (sc r k); split <;> omega
  have h2 := sc_b h hk
  unfold lt2 at *
  rw [show b.nb + 129 = (b.nb + 128) + 1 by omega, Nat.pow_succ]; omega
theorem rootHi_b {r : Rat} {b : Bd} {k : Nat} (h : Bnd .rat b r) (hk : k ≤ 64) : Bnd .rat (.n (b.nb + 130)) (rootHi r k) := by
  unfold rootHi; split
  · exact zero_bn _
  · refine sgQ_bnd (lt2_mono (by omega) (hiN_b h hk)) ?_ (Nat.pow_pos (by omega))
    exact Nat.pow_le_pow_right (by omega) (by omega)
theorem minQ_self (r : Rat) : minQ r r = r := by unfold minQ; split <;> rfl
theorem maxQ_self (r : Rat) : maxQ r r = r := by unfold maxQ; split <;> rfl
theorem magE2 (x : Nat) (b c : Bd) (r : WC) : (WV.tup [.one (.dt (.sl (.nat .u32)) b (limbs x)), r]).exp = (WV.tup [.one (.dt .mag c x), r]).exp := by
  have h := magE x b c
  have h2 : (WC.one (.dt (.sl (.nat .u32)) b (limbs x))).exp = (WC.one (.dt .mag c x)).exp := by injection h
  show AV.tup [(WC.one (.dt (.sl (.nat .u32)) b (limbs x))).exp, r.exp] = AV.tup [(WC.one (.dt .mag c x)).exp, r.exp]
  rw [h2]
theorem take_limbs {l : List Nat} (hu : ∀ u ∈ l, u < 4294967296) : l.take (limbs (valL l)).length = limbs (valL l) := by
  have h1 := nl_valL hu
  have h2 := pad_eq (lt_take (n := (limbs (valL l)).length) hu)
  have h3 := pad_eq (limbs_lt (valL l))
  rw [List.length_take, Nat.min_eq_left h1] at h2
  rw [valL_limbs] at h3
  have h4 := valL_split l (limbs (valL l)).length
  rw [Nat.min_eq_left h1] at h4
  have h5 := valL_lt (limbs (valL l)) (limbs_lt _)
  rw [valL_limbs] at h5
  have h6 : valL (l.drop (limbs (valL l)).length) = 0 := by
    apply Nat.eq_zero_of_not_pos
    intro hp
    have := Nat.mul_le_mul_left (4294967296 ^ (limbs (valL l)).length) hp
    omega
  rw [h6, Nat.mul_zero, Nat.add_zero] at h4
  rw [h2, ← h4]; exact h3.symm
theorem shup_lt (x m : Nat) : ∀ u ∈ List.replicate (m / 32) 0 ++ padL (x * 2 ^ (m % 32)) ((limbs x).length + 1), u < 4294967296 := by
  intro u hu
  rcases List.mem_append.1 hu with hu | hu
  · exact rep_lt _ u hu
  · exact padL_lt _ _ u hu
theorem shup_val (x m : Nat) : valL (List.replicate (m / 32) 0 ++ padL (x * 2 ^ (m % 32)) ((limbs x).length + 1)) = x * 2 ^ m := by
  rw [valL_append, valL_rep, raise_val x (m % 32) (by omega), List.length_replicate, Nat.zero_add, Nat.mul_left_comm, pow_split]
theorem shup_end (x m : Nat) : (List.replicate (m / 32) 0 ++ padL (x * 2 ^ (m % 32)) ((limbs x).length + 1)).take (limbs (valL (List.replicate (m / 32) 0 ++ padL (x * 2 ^ (m % 32)) ((limbs x).length + 1)))).length = limbs (x * 2 ^ m) := by
  rw [take_limbs (shup_lt x m), shup_val]
theorem shup_len {x m a c : Nat} (h : lt2 x a) (hm : m ≤ c) : (limbs (x * 2 ^ m)).length ≤ a + c / 32 + 8 := by
  have := limbs_len_le (Nat.le_of_lt (lt2_up h hm))
  omega
theorem prb_mx (b : Bd) : b.r.l.nb ≤ b.mx ∧ b.r.r.nb ≤ b.mx := by
  have h1 := b.r.l.nb_mx; have h2 := b.r.l_mx; have h3 := b.r_mx; have h4 := b.r.r.nb_mx; have h5 := b.r.r_mx
  exact ⟨by omega, by omega⟩
theorem lt2_one {b : Nat} (h : 1 ≤ b) : lt2 1 b := lt2_mono h (lt2_lit (x := 1) (b := 1) rfl)
theorem sgn_lt {r : Rat} : sgnQ r < 0 ↔ r.num < 0 := by
  unfold sgnQ; split
  · omega
  · split <;> omega
theorem sgn_gt {r : Rat} : 0 < sgnQ r ↔ 0 < r.num := by
  unfold sgnQ; split
  · omega
  · split <;> omega
theorem sc_zero {r : Rat} {k : Nat} (h : r.num = 0) : sc r k = 0 := by unfold sc; rw [h]; simp
theorem rootLo_e {r : Rat} {k : Nat} (h : ¬ r.num < 0) : sgQ false (isq (sc r k)) (1 * 2 ^ k) = rootLo r k := by rw [Nat.one_mul, rootLo, if_neg h]
theorem rootLo_z {r : Rat} {k : Nat} (h : ¬ r.num < 0) (h2 : ¬ 0 < sgnQ r) : sgQ false 0 (1 * 2 ^ k) = rootLo r k := by
  have h3 := mt sgn_gt.2 h2
  rw [← rootLo_e h, sc_zero (by omega), isq_zero]
theorem rootHi_1 {r : Rat} {k : Nat} (h : ¬ r.num < 0) (hc : scm r k = true ∨ cmpN (isq (sc r k) * isq (sc r k)) (sc r k) < 0) : sgQ false (isq (sc r k) + 1) (1 * 2 ^ k) = rootHi r k := by
  rw [Nat.one_mul, rootHi, if_neg h, hiN, if_pos]
  exact hc.imp id cmp_lt0.1
theorem rootHi_2 {r : Rat} {k : Nat} (h : ¬ r.num < 0) (h1 : ¬ scm r k = true) (h2 : ¬ cmpN (isq (sc r k) * isq (sc r k)) (sc r k) < 0) : sgQ false (isq (sc r k)) (1 * 2 ^ k) = rootHi r k := by
  rw [Nat.one_mul, rootHi, if_neg h, hiN, if_neg]
  rintro (e | e)
  · exact h1 e
  · exact h2 (cmp_lt0.2 e)
theorem lo_neg {r : Rat} {k : Nat} (h : r.num < 0) : (0 : Rat) = rootLo r k := (if_pos h).symm
theorem hi_neg {r : Rat} {k : Nat} (h : r.num < 0) : (0 : Rat) = rootHi r k := (if_pos h).symm
theorem rootS_b {s : Rat × Rat} {b : Bd} {k : Nat} (h : Bnd (.pr .rat .rat) b s) (hk : k ≤ 64) : Bnd (.pr .rat .rat) (.p (.n (b.mx + 130)) (.n (b.mx + 130))) (rootLo s.2 k, rootHi s.2 k) := by
  have h1 := h.pr.2
  have := b.r.nb_mx; have := b.r_mx
  exact ⟨rat_le (rootLo_b h1 hk) (by omega), rat_le (rootHi_b h1 hk) (by omega)⟩
end Go.Proofs.YtcjgaaibflcdiaaGreat.Sx

namespace Go.Proofs.YtcjgaaibflcdiaaGreat.Sx
open Go Go.Proofs
set_option linter.unusedVariables false
set_option linter.unusedSimpArgs false
set_option maxRecDepth 20000
set_option maxHeartbeats 4000000
abbrev shup_i : FI := ⟨190, [.mag, (.nat .i64)], [(.n 549755813888), (.n 16384)], fun _ => [], fun b z => (fun (x : Nat) (m : Nat) => .tup [.one (.dt (.sl (.nat .u32)) (.s ((b0 b).nb + (b1 b).nb / 32 + 8) (.n 4294967295)) (limbs (x * 2 ^ m))), .one (.kn .i64 0)]) z.1 z.2⟩
theorem shup_k : shup_i.OK Tryz.prog := mkF hmix 79 Tryz.func190 rfl rfl (by decide) [(199, .c raiseD_c)] (fun _ => rfl) (fun _ => rfl) (fun _ _ => rfl) (fun (x : Nat) (m : Nat) b hx hp => tup_cons (one_ok ⟨shup_len (Bnds.h2 hx).1.mag (Bnds.h2 hx).2.nat, fun u hu => Nat.le_of_lt_succ (limbs_lt _ u hu)⟩ rfl) (tup_cons kn_ok tup_nil)) (fun (x : Nat) (m : Nat) hx hp => by
 have hx0 : lt2 x 549755813888 := hx.1
 have hl0 : (limbs x).length ≤ 17179869185 := limbs_len_le (Nat.le_of_lt hx0)
 have hx1 : m ≤ 16384 := hx.2
 exact ⟨.h 1 1 (.c trimM_c) (.cond (.dead) (.cond (.h 5 2 (.mk (.gro (.nat .u32) (.n 4294967295))) (.h 5 8 (.s trimS_c) (.pre 999999 (.frz 24 false [4]) (.nil)))) (.dead))), kcast (by kernel_rfl) (And.intro (fun (h1 : 16384 < m) => (by omega : False)) (fun (h2 : ¬ (16384 < m)) => And.intro (fun (h3 : 0 ≤ m) => I (by omega : m / 32 = m / 32) (I ((List.length_replicate ..).symm : m / 32 = (List.replicate (m / 32) (0 : Nat)).length) (I (by rw [List.length_append, List.length_replicate] : (m / 32) + (padL (x * 2 ^ (m % 32)) ((limbs x).length + 1)).length = ((List.replicate (m / 32) (0 : Nat)) ++ (padL (x * 2 ^ (m % 32)) ((limbs x).length + 1))).length) (I (nl_valL (shup_lt x m) : (limbs (valL ((List.replicate (m / 32) (0 : Nat)) ++ (padL (x * 2 ^ (m % 32)) ((limbs x).length + 1))))).length ≤ ((List.replicate (m / 32) (0 : Nat)) ++ (padL (x * 2 ^ (m % 32)) ((limbs x).length + 1))).length) ((shup_end x m : ((List.replicate (m / 32) (0 : Nat)) ++ (padL (x * 2 ^ (m % 32)) ((limbs x).length + 1))).take ((limbs (valL ((List.replicate (m / 32) (0 : Nat)) ++ (padL (x * 2 ^ (m % 32)) ((limbs x).length + 1))))).length) = limbs (x * 2 ^ m))))))) (fun (h4 : ¬ (0 ≤ m)) => (by omega : False))))⟩)
abbrev shup_R (b : List Bd) (x : Nat) (m : Nat) : WV := .tup [.one (.dt (.sl (.nat .u32)) (.s ((b0 b).nb + (b1 b).nb / 32 + 8) (.n 4294967295)) (limbs (x * 2 ^ m))), .one (.kn .i64 0)]
theorem shup_sig (x : Nat) (m : Nat) (hx : Bnds [.mag, (.nat .i64)] [(.n 549755813888), (.n 16384)] (x, m)) (hp : ∀ c0 ∈ ([] : List Prop), c0) : Sig Tryz.prog 190 (argsE [.mag, (.nat .i64)] (x, m)) (shup_R [(.n 549755813888), (.n 16384)] x m).exp := shup_k.sig (x, m) hx hp
abbrev shupM_R (b : List Bd) (x m : Nat) : WV := .tup [.one (.dt .mag (.n ((b0 b).nb + (b1 b).nb)) (x * 2 ^ m)), .one (.kn .i64 0)]
theorem shupM_sig (x m : Nat) (hx : Bnds [.mag, .nat .i64] [.n 549755813888, .n 16384] (x, m)) (hp : ∀ c0 ∈ ([] : List Prop), c0) : Sig Tryz.prog 190 (argsE [.mag, .nat .i64] (x, m)) (shupM_R [.n 549755813888, .n 16384] x m).exp := (magE2 _ _ _ _) ▸ shup_sig x m hx hp
theorem tn_le {m : Int} (h : m ≤ 16384) : m.toNat ≤ 16384 := by omega
theorem argsE_iz' (x : Nat) (z : Int) (h : 0 ≤ z) : argsE [.mag, .int .i64] (x, z) = argsE [.mag, .nat .i64] (x, z.toNat) := by
  obtain ⟨n, rfl⟩ := Int.eq_ofNat_of_zero_le h; rfl
def shupZ_c : Ctr Tryz.prog := ⟨190, [.mag, .int .i64], [.n 549755813888, .n 18446744073709551616], fun z => [0 ≤ z.2, z.2 ≤ 16384], fun b z => shupM_R [b0 b, .n 16384] z.1 z.2.toNat,
  fun z hx hp => by
    have h0 : 0 ≤ z.2 := hp _ List.mem_cons_self
    have h1 : z.2 ≤ 16384 := hp _ (List.mem_cons_of_mem _ List.mem_cons_self)
    have h := shupM_sig z.1 z.2.toNat ⟨hx.1, tn_le h1⟩ (by intro p hp; cases hp)
    rw [← argsE_iz' z.1 z.2 h0] at h; exact h,
  fun _ _ => rfl, fun b z hx hp => tup_cons (one_ok (lt2_up (Bnds.h2 hx).1.mag (tn_le (hp _ (List.mem_cons_of_mem _ List.mem_cons_self)))) rfl) (tup_cons kn_ok tup_nil)⟩
abbrev shdn_i : FI := ⟨190, [.mag, (.int .i64)], [(.n 549755813888), (.n 1)], fun z => (fun (x : Nat) (m : Int) => [m = -1]) z.1 z.2, fun b z => (fun (x : Nat) (m : Int) => .tup [.one (.dt .mag (b0 b) (x / 2 ^ 1)), .one (.kn .i64 0)]) z.1 z.2⟩
theorem shdn_k : shdn_i.OK Tryz.prog := mkF hmix 79 Tryz.func190 rfl rfl (by decide) [] (fun _ => rfl) (fun _ => rfl) (fun _ _ => rfl) (fun (x : Nat) (m : Int) b hx hp => tup_cons (one_ok ((Bnds.h2 hx).1.magLe (Nat.div_le_self _ _)) rfl) (tup_cons kn_ok tup_nil)) (fun (x : Nat) (m : Int) hx hp => by
 have hx0 : lt2 x 549755813888 := hx.1
 have hl0 : (limbs x).length ≤ 17179869185 := limbs_len_le (Nat.le_of_lt hx0)
 have hx1 : Int.natAbs m ≤ 1 := hx.2
 have hp0 : m = -1 := hp _ (List.mem_cons_self)
 exact ⟨.h 1 1 (.c trimM_c) (.cond (.dead) (.cond (.dead) (.cond (.nil) (.h 8 3 (.i (.n 0 0)) (.h 8 4 (.mag x 549755813888) (.h 8 5 (.o clone_c) (.h 9 2 (.i (.n 1 1)) (.loop [.s 43 (.nat .i64) (.n 1099511627776), .bk 37 (.nat .u32) (.n 4294967295)] (fun ((i, l) : Nat × List Nat) => DownI x 1 (limbs x).length i l) (fun ((i, l) : Nat × List Nat) => (limbs x).length - i) (fun ((i, l) : Nat × List Nat) => .cond (.h 13 5 (.i (.n ((l.getD i 0) / 2 ^ 1) 4294967295)) (.cond (.cond (.h 15 10 (.i .sub) (.h 15 11 (.i (.n (((l.set i ((l.getD i 0) / 2 ^ 1)).getD (i + 1) 0) * 2 ^ (32 - 1) % 4294967296) 4294967295)) (.h 15 12 (.i (.n (((l.set i ((l.getD i 0) / 2 ^ 1)).getD i 0) + (((l.set i ((l.getD i 0) / 2 ^ 1)).getD (i + 1) 0) * 2 ^ (32 - 1) % 4294967296)) 4294967295)) (.nil)))) (.nil)) (.nil))) (.pre 17 (.frz 37 false [6]) (.h 17 1 (.c trim_c) (.nil)))))))))))), kcast (by kernel_rfl) (And.intro (fun (h1 : 16384 < m) => (by omega : False)) (fun (h2 : ¬ (16384 < m)) => And.intro (fun (h3 : 0 ≤ m) => (by omega : False)) (fun (h4 : ¬ (0 ≤ m)) => And.intro (fun (h5 : m ≤ (-32) * (((limbs x).length : Nat) : Int)) => (by rw [nl0.1 (show (limbs x).length = 0 by omega)] : 0 = x / 2 ^ 1)) (fun (h6 : ¬ (m ≤ (-32) * (((limbs x).length : Nat) : Int))) => I (by rw [hp0]; exact ⟨by decide, by decide⟩ : BinIs .quo .i64 (-m) 32 ((0 : Nat) : Int)) (I (by omega : 0 ≤ 0) (I (by omega : 0 ≤ (limbs x).length) (I (rfl : (limbs x).drop 0 = limbs x) (I (hx0 : lt2 x 549755813888) (I (by rw [hp0]; exact ⟨by decide, by decide⟩ : BinIs .rem .i64 (-m) 32 ((1 : Nat) : Int)) (I (by omega : 1 ≤ 1) (I (DownI.start (limbs_lt x) rfl (valL_limbs x) : DownI x 1 (limbs x).length 0 (limbs x)) (fun (i : Nat) (l : List Nat) (hb7 : HB [.s 43 (.nat .i64) (.n 1099511627776), .bk 37 (.nat .u32) (.n 4294967295)] (i, l)) (hW : DownI x 1 (limbs x).length i l) => have hv14 := (show i ≤ 1099511627776 from hb7.1); have hv15 := (show ∀ u ∈ l, u ≤ 4294967295 from hb7.2); have hWl := hW.hl; have hWi := hW.hi; have hWN := hW.hN; have hwg := (getD_lt (by omega) hW.hu : ∀ k, l.getD k 0 < 4294967296); And.intro (fun (h8 : i < (limbs x).length) => I (by omega : i < (limbs x).length) (I (by omega : i < l.length) (I (bi_shr _ _ (show 1 ≤ 32 by omega) : BinIs .shr .u32 ((l.getD i 0 : Nat) : Int) ((1 : Nat) : Int) (((l.getD i 0) / 2 ^ 1 : Nat) : Int)) (I (Nat.le_trans (Nat.div_le_self _ _) (by have := hwg i; omega) : (l.getD i 0) / 2 ^ 1 ≤ 4294967295) (I (by omega : i < (limbs x).length) (I (by omega : i < l.length) (And.intro (fun (h9 : 0 < 1) => And.intro (fun (h10 : i + 1 < (limbs x).length) => I (by omega : i < (limbs x).length) (I (by simp only [List.length_set]; omega : i < (l.set i ((l.getD i 0) / 2 ^ 1)).length) (I (by omega : i + 1 < (limbs x).length) (I (by simp only [List.length_set]; omega : i + 1 < (l.set i ((l.getD i 0) / 2 ^ 1)).length) (I (by omega : 1 ≤ 32) (I (bi_shlw _ _ (by omega) : BinIs .shl .u32 (((l.set i ((l.getD i 0) / 2 ^ 1)).getD (i + 1) 0 : Nat) : Int) ((32 - 1 : Nat) : Int) ((((l.set i ((l.getD i 0) / 2 ^ 1)).getD (i + 1) 0) * 2 ^ (32 - 1) % 4294967296 : Nat) : Int)) (I (by omega : ((l.set i ((l.getD i 0) / 2 ^ 1)).getD (i + 1) 0) * 2 ^ (32 - 1) % 4294967296 ≤ 4294967295) (I ((down_bi (s := 1) (by omega) hwg (by omega)).1 : BinIs .or .u32 (((l.set i ((l.getD i 0) / 2 ^ 1)).getD i 0 : Nat) : Int) ((((l.set i ((l.getD i 0) / 2 ^ 1)).getD (i + 1) 0) * 2 ^ (32 - 1) % 4294967296 : Nat) : Int) ((((l.set i ((l.getD i 0) / 2 ^ 1)).getD i 0) + (((l.set i ((l.getD i 0) / 2 ^ 1)).getD (i + 1) 0) * 2 ^ (32 - 1) % 4294967296) : Nat) : Int)) (I ((down_bi (s := 1) (by omega) hwg (by omega)).2 : ((l.set i ((l.getD i 0) / 2 ^ 1)).getD i 0) + (((l.set i ((l.getD i 0) / 2 ^ 1)).getD (i + 1) 0) * 2 ^ (32 - 1) % 4294967296) ≤ 4294967295) (I (by omega : i < (limbs x).length) (I (by simp only [List.length_set]; omega : i < (l.set i ((l.getD i 0) / 2 ^ 1)).length) (I (show (i + 1) ≤ 1099511627776 by omega : Bnd (.nat .i64) (.n 1099511627776) (i + 1)) (And.intro (by first | exact hW.step1 (by omega) (by omega) (by omega) | exact hW.step2 (by omega) (by omega) : DownI x 1 (limbs x).length (i + 1) ((l.set i ((l.getD i 0) / 2 ^ 1)).set i (((l.set i ((l.getD i 0) / 2 ^ 1)).getD i 0) + (((l.set i ((l.getD i 0) / 2 ^ 1)).getD (i + 1) 0) * 2 ^ (32 - 1) % 4294967296)))) (by omega : (limbs x).length - (i + 1) < (limbs x).length - i)))))))))))))) (fun (h11 : ¬ (i + 1 < (limbs x).length)) => I (show (i + 1) ≤ 1099511627776 by omega : Bnd (.nat .i64) (.n 1099511627776) (i + 1)) (And.intro (by first | exact hW.step1 (by omega) (by omega) (by omega) | exact hW.step2 (by omega) (by omega) : DownI x 1 (limbs x).length (i + 1) (l.set i ((l.getD i 0) / 2 ^ 1))) (by omega : (limbs x).length - (i + 1) < (limbs x).length - i)))) (fun (h12 : ¬ (0 < 1)) => I (show (i + 1) ≤ 1099511627776 by omega : Bnd (.nat .i64) (.n 1099511627776) (i + 1)) (And.intro (by first | exact hW.step1 (by omega) (by omega) (by omega) | exact hW.step2 (by omega) (by omega) : DownI x 1 (limbs x).length (i + 1) (l.set i ((l.getD i 0) / 2 ^ 1))) (by omega : (limbs x).length - (i + 1) < (limbs x).length - i)))))))))) (fun (h13 : ¬ (i < (limbs x).length)) => I (by omega : (limbs x).length ≤ l.length) (I ((DownI.fin' hW (by omega) rfl).2 : ∀ u ∈ l.take ((limbs x).length), u < 4294967296) (((DownI.fin' hW (by omega) rfl).1 : valL (l.take ((limbs x).length)) = x / 2 ^ 1))))))))))))))))⟩)
abbrev shdn_c : Ctr Tryz.prog := FI.c shdn_k
end Go.Proofs.YtcjgaaibflcdiaaGreat.Sx

namespace Go.Proofs.YtcjgaaibflcdiaaGreat.Sx
open Go Go.Proofs
set_option linter.unusedVariables false
set_option linter.unusedSimpArgs false
set_option maxRecDepth 20000
set_option maxHeartbeats 4000000
abbrev rdenP_i : FI := ⟨98, [(.pr .bool (.pr .mag .mag))], [(.p .u (.p (.n 549755813888) (.n 549755813888)))], fun z => (fun (x : Bool × Nat × Nat) => [0 < x.2.2]) z, fun b z => (fun (x : Bool × Nat × Nat) => .c (.one (.dt .mag (.n ((b0 b).mx)) (x.2.2)))) z⟩
theorem rdenP_k : rdenP_i.OK Tryz.prog := mkF hmix 10 Tryz.func98 rfl rfl (by decide) [(100, .c rone_c)] (fun _ => rfl) (fun _ => rfl) (fun _ _ => rfl) (fun (x : Bool × Nat × Nat) b hx hp => one_ok (lt2_mono (prb_mx (b0 b)).2 (Bnds.h1 hx).pr.2.pr.2.mag) rfl) (fun (x : Bool × Nat × Nat) hx hp => by
 have hp0 : 0 < x.2.2 := hp _ (List.mem_cons_self)
 exact ⟨.nil, kcast (by kernel_rfl) (And.intro (fun (h1 : (limbs x.2.2).length = 0) => (by have := nl0.1 (show (limbs x.2.2).length = 0 by assumption); omega : 1 = x.2.2)) (fun (h2 : ¬ ((limbs x.2.2).length = 0)) => (Eq.refl x.2.2)))⟩)
abbrev rdenP_c : Ctr Tryz.prog := FI.c rdenP_k
abbrev rnorm_i : FI := ⟨194, [(.pr .bool (.pr .mag .mag))], [(.p .u (.p (.n 549755813888) (.n 549755813888)))], fun z => (fun (x : Bool × Nat × Nat) => [0 < x.2.2]) z, fun b z => (fun (x : Bool × Nat × Nat) => .tup [.agg [.dt .rat (.n (b0 b).mx) (sgQ x.1 x.2.1 x.2.2)], .one (.kn .i64 0)]) z⟩
theorem rnorm_k : rnorm_i.OK Tryz.prog := mkF hmix 22 Tryz.func194 rfl rfl (by decide) [(93, .c bits_c), (96, .c reduce_c)] (fun _ => rfl) (fun _ => rfl) (fun _ _ => rfl) (fun (x : Bool × Nat × Nat) b hx hp => tup_cons (agg_rat (sgQ_bnd0 (lt2_mono (prb_mx (b0 b)).1 (Bnds.h1 hx).pr.2.pr.1.mag) (lt2_mono (prb_mx (b0 b)).2 (Bnds.h1 hx).pr.2.pr.2.mag))) (tup_cons kn_ok tup_nil)) (fun (x : Bool × Nat × Nat) hx hp => by
 have hp0 : 0 < x.2.2 := hp _ (List.mem_cons_self)
 exact ⟨.cond (.cond (.dead) (.h 3 5 (.c rdenP_c) (.nil))) (.h 3 5 (.c rdenP_c) (.nil)), kcast (by kernel_rfl) (And.intro (fun (h1 : 0 < (limbs x.2.2).length) => And.intro (fun (h2 : bl x.2.2 = 0) => (absurd (bl_eq0.1 h2) (by omega) : False)) (fun (h3 : ¬ (bl x.2.2 = 0)) => I (hp0 : 0 < x.2.2) ((Eq.refl (sgQ x.1 x.2.1 x.2.2))))) (fun (h4 : ¬ (0 < (limbs x.2.2).length)) => I (hp0 : 0 < x.2.2) ((Eq.refl (sgQ x.1 x.2.1 x.2.2)))))⟩)
abbrev rnorm_c : Ctr Tryz.prog := FI.c rnorm_k
abbrev sscaled_i : FI := ⟨191, [.rat, (.int .i64)], [(.n 15000), (.n 18446744073709551616)], fun z => (fun (r : Rat) (k : Int) => [0 ≤ k, k ≤ 64]) z.1 z.2, fun b z => (fun (r : Rat) (k : Int) => .tup [.one (.dt .mag (.n ((b0 b).nb + 128)) (sc r k.toNat)), .one (.dt .bool .u (scm r k.toNat))]) z.1 z.2⟩
theorem sscaled_k : sscaled_i.OK Tryz.prog := mkF hmix 38 Tryz.func191 rfl rfl (by decide) [(93, .c bits_c), (158, .c div_c)] (fun _ => rfl) (fun _ => rfl) (fun _ _ => rfl) (fun (r : Rat) (k : Int) b hx hp => tup_cons (one_ok (sc_b (Bnds.h2 hx).1 (by have := hp _ (List.mem_cons_of_mem _ List.mem_cons_self); omega)) rfl) (tup_cons (one_ok trivial rfl) tup_nil)) (fun (r : Rat) (k : Int) hx hp => by
 have hx0 : Bnd .rat (.n 15000) r := hx.1
 have hx1 : Int.natAbs k ≤ 18446744073709551616 := hx.2
 have hp0 : 0 ≤ k := hp _ (List.mem_cons_self)
 have hp1 : k ≤ 64 := hp _ (List.mem_cons_of_mem _ (List.mem_cons_self))
 exact ⟨.h 4 2 (.c shupZ_c) (.h 4 2 (.c shupZ_c) (.cond (.nil) (.h 8 2 (.mag r.den 15001) (.nil)))), kcast (by kernel_rfl) (I (by omega : 0 ≤ k) (I (by omega : k ≤ 16384) (I (by omega : 0 ≤ k) (I (by omega : k ≤ 16384) (And.intro (fun (h1 : (denL r.den).length = 0) => And.intro (by unfold sc; rw [denL_one r.den_nz h1, Nat.div_one] : (r.num.natAbs * 2 ^ k.toNat) * 2 ^ k.toNat = sc r k.toNat) (by unfold scm; rw [denL_one r.den_nz h1, Nat.mod_one]; rfl : false = scm r k.toNat)) (fun (h2 : ¬ ((denL r.den).length = 0)) => I (denL_limbs (by omega) : denL r.den = limbs r.den) (I (le2_lt2 hx0.2 : lt2 r.den 15001) (I (Nat.pos_of_ne_zero r.den_nz : 0 < r.den) (And.intro (rfl : ((r.num.natAbs * 2 ^ k.toNat) * 2 ^ k.toNat) / r.den = sc r k.toNat) (rfl : decide (0 < bl (((r.num.natAbs * 2 ^ k.toNat) * 2 ^ k.toNat) % r.den)) = scm r k.toNat))))))))))⟩)
abbrev sscaled_c : Ctr Tryz.prog := FI.c sscaled_k
theorem argC_one : argC (.sl (.nat .u32)) ([1] : List Nat) = argC .mag (1 : Nat) := by
  have h := argsE_mag 1
  rw [limbs_one] at h
  have h2 : argC .mag (1 : Nat) = argC (.sl (.nat .u32)) ([1] : List Nat) := by injection h
  exact h2.symm
theorem argsE_1n (m : Nat) : argsE [.sl (.nat .u32), .nat .i64] (([1] : List Nat), m) = argsE [.mag, .nat .i64] ((1 : Nat), m) := by
  show [argC (.sl (.nat .u32)) ([1] : List Nat), argC (.nat .i64) m] = [argC .mag (1 : Nat), argC (.nat .i64) m]
  rw [argC_one]
theorem argsE_1z (m : Int) : argsE [.sl (.nat .u32), .int .i64] (([1] : List Nat), m) = argsE [.mag, .int .i64] ((1 : Nat), m) := by
  show [argC (.sl (.nat .u32)) ([1] : List Nat), argC (.int .i64) m] = [argC .mag (1 : Nat), argC (.int .i64) m]
  rw [argC_one]
theorem argsE_m1 (x : Nat) : argsE [.mag, .sl (.nat .u32)] (x, ([1] : List Nat)) = argsE [.mag, .mag] (x, (1 : Nat)) := by
  show [argC .mag x, argC (.sl (.nat .u32)) ([1] : List Nat)] = [argC .mag x, argC .mag (1 : Nat)]
  rw [argC_one]
def shup1_c : Ctr Tryz.prog := ⟨190, [.sl (.nat .u32), .nat .i64], [.s 1 (.n 4294967295), .n 16384], fun z => [z.1 = [1]], fun b z => shupM_R [.n 1, b1 b] 1 z.2,
  fun z hx hp => by
    have h0 : z.1 = [1] := hp _ List.mem_cons_self
    have h := shupM_sig 1 z.2 ⟨lt2_one (by decide), hx.2⟩ (by intro p hp; cases hp)
    rw [← argsE_1n z.2, ← h0] at h; exact h,
  fun _ _ => rfl, fun b z hx hp => tup_cons (one_ok (lt2_up (lt2_lit rfl) (Bnds.h2 hx).2.nat) rfl) (tup_cons kn_ok tup_nil)⟩
def shup1Z_c : Ctr Tryz.prog := ⟨190, [.sl (.nat .u32), .int .i64], [.s 1 (.n 4294967295), .n 18446744073709551616], fun z => [z.1 = [1], 0 ≤ z.2, z.2 ≤ 16384], fun b z => shupM_R [.n 1, .n 16384] 1 z.2.toNat,
  fun z hx hp => by
    have h0 : z.1 = [1] := hp _ List.mem_cons_self
    have h1 : 0 ≤ z.2 := hp _ (List.mem_cons_of_mem _ List.mem_cons_self)
    have h2 : z.2 ≤ 16384 := hp _ (List.mem_cons_of_mem _ (List.mem_cons_of_mem _ List.mem_cons_self))
    have h := shupM_sig 1 z.2.toNat ⟨lt2_one (by decide), tn_le h2⟩ (by intro p hp; cases hp)
    rw [← argsE_iz' 1 z.2 h1, ← argsE_1z z.2, ← h0] at h; exact h,
  fun _ _ => rfl, fun b z hx hp => tup_cons (one_ok (lt2_up (lt2_lit rfl) (tn_le (hp _ (List.mem_cons_of_mem _ (List.mem_cons_of_mem _ List.mem_cons_self))))) rfl) (tup_cons kn_ok tup_nil)⟩
def add1_c : Ctr Tryz.prog := ⟨150, [.mag, .sl (.nat .u32)], [.n 1099511627776, .s 1 (.n 4294967295)], fun z => [z.2 = [1]], fun b z => add_R [b0 b, .n 1] z.1 1,
  fun z hx hp => by
    have h0 : z.2 = [1] := hp _ List.mem_cons_self
    have h := add_sig z.1 1 ⟨hx.1, lt2_one (b := 1099511627776) (by decide)⟩ (by intro p hp; cases hp)
    rw [← argsE_m1 z.1, ← h0] at h; exact h,
  fun _ _ => rfl, fun b z hx hp => one_ok (lt2_add (Bnds.h2 hx).1.mag (lt2_lit rfl)) rfl⟩
abbrev sroot_i : FI := ⟨192, [.mag], [(.n 16000)], fun _ => [], fun b z => (fun (n : Nat) => .c (.one (.dt .mag (b0 b) (isq n)))) z⟩
theorem sroot_k : sroot_i.OK Tryz.prog := mkF hmix 42 Tryz.func192 rfl rfl (by decide) [(93, .c bits_c), (150, .c add_c), (158, .c div_c), (193, .c cmp_c)] (fun _ => rfl) (fun _ => rfl) (fun _ _ => rfl) (fun (n : Nat) b hx hp => one_ok ((Bnds.h1 hx).magLe (isq_self n)) rfl) (fun (n : Nat) hx hp => by
 have hx0 : lt2 n 16000 := hx
 exact ⟨.cond (.nil) (.h 3 0 (.mk (.im (.nat .u32) (.n 4294967295))) (.h 3 5 (.c shup1_c) (.loop [.s 3 .mag (.n 40000)] (fun (x : Nat) => Newt n x) (fun (x : Nat) => x) (fun (x : Nat) => .h 5 3 (.c shdn_c) (.nil))))), kcast (by kernel_rfl) (And.intro (fun (h1 : bl n = 0) => (by rw [bl_eq0.1 (show bl n = 0 by assumption)]; rfl : 0 = isq n)) (fun (h2 : ¬ (bl n = 0)) => have hn0 := (show 0 < n from Nat.pos_of_ne_zero (mt bl_eq0.2 (by assumption))); have hbn := (bl_lb hx0 : bl n ≤ 16000); I (Eq.refl [1]) (I (Newt.start : Newt n (1 * 2 ^ (((bl n) + 1) / 2))) (fun (x : Nat) (hb3 : HB [.s 3 .mag (.n 40000)] x) (hN : Newt n x) => have hxb := (show Bnd .mag (.n 40000) x from hb3); have hNx := hN.hx; I (hN.hx : 0 < x) (I (Eq.refl (-1)) (And.intro (fun (h4 : 0 ≤ cmpN ((x + (n / x)) / 2 ^ 1) x) => (hN.fin (Nat.le_of_not_lt (mt cmp_lt0.2 (Int.not_lt.2 h4))) : x = isq n)) (fun (h5 : ¬ (0 ≤ cmpN ((x + (n / x)) / 2 ^ 1) x)) => have hlt := cmp_lt0.1 (Int.not_le.1 h5); I (hxb.magLe (Nat.le_of_lt hlt) : Bnd .mag (.n 40000) ((x + (n / x)) / 2 ^ 1)) (And.intro (hN.step hn0 : Newt n ((x + (n / x)) / 2 ^ 1)) (hlt : (x + (n / x)) / 2 ^ 1 < x)))))))))⟩)
abbrev sroot_c : Ctr Tryz.prog := FI.c sroot_k
end Go.Proofs.YtcjgaaibflcdiaaGreat.Sx

namespace Go.Proofs.YtcjgaaibflcdiaaGreat.Sx
open Go Go.Proofs
set_option linter.unusedVariables false
set_option linter.unusedSimpArgs false
set_option maxRecDepth 20000
set_option maxHeartbeats 4000000
abbrev sofp_i : FI := ⟨195, [.rat, .rat], [(.n 68719476736), (.n 68719476736)], fun _ => [], fun b z => (fun (x : Rat) (y : Rat) => .c (.agg [.dt (.pr .rat .rat) (.p (.n (max (b0 b).nb (b1 b).nb)) (.n (max (b0 b).nb (b1 b).nb))) (minQ x y, maxQ x y)])) z.1 z.2⟩
theorem sofp_k : sofp_i.OK Tryz.prog := mkF hmix 12 Tryz.func195 rfl rfl (by decide) [(109, .c rmin_c), (110, .c rmax_c)] (fun _ => rfl) (fun _ => rfl) (fun _ _ => rfl) (fun (x : Rat) (y : Rat) b hx hp => agg_ok ⟨minQ_bnd (Bnds.h2 hx).1 (Bnds.h2 hx).2, maxQ_bnd (Bnds.h2 hx).1 (Bnds.h2 hx).2⟩) (fun (x : Rat) (y : Rat) hx hp => by
 exact ⟨.nil, kcast (by kernel_rfl) ((Eq.refl (minQ x y, maxQ x y)))⟩)
abbrev sofp_c : Ctr Tryz.prog := FI.c sofp_k
abbrev spoint_i : FI := ⟨147, [.rat], [(.n 68719476736)], fun _ => [], fun b z => (fun (r : Rat) => .c (.agg [.dt (.pr .rat .rat) (.p (.n (b0 b).nb) (.n (b0 b).nb)) (r, r)])) z⟩
theorem spoint_k : spoint_i.OK Tryz.prog := mkF hmix 6 Tryz.func147 rfl rfl (by decide) [(195, .c sofp_c)] (fun _ => rfl) (fun _ => rfl) (fun _ _ => rfl) (fun (r : Rat) b hx hp => agg_ok ⟨rat_mx (Bnds.h1 hx) (Nat.le_refl _), rat_mx (Bnds.h1 hx) (Nat.le_refl _)⟩) (fun (r : Rat) hx hp => by
 exact ⟨.nil, kcast (by kernel_rfl) ((by rw [minQ_self, maxQ_self] : (minQ r r, maxQ r r) = (r, r)))⟩)
abbrev spoint_c : Ctr Tryz.prog := FI.c spoint_k
abbrev sRoot_i : FI := ⟨146, [(.pr .rat .rat), (.int .i64)], [(.p (.n 15000) (.n 15000)), (.n 9223372036854775808)], fun z => (fun (s : Rat × Rat) (k : Int) => [0 ≤ k, k ≤ 64, s.1 = s.2, ¬ s.2.num < 0]) z.1 z.2, fun b z => (fun (s : Rat × Rat) (k : Int) => .tup [.agg [.dt (.pr .rat .rat) (.p (.n ((b0 b).mx + 130)) (.n ((b0 b).mx + 130))) (rootLo s.2 k.toNat, rootHi s.2 k.toNat)], .one (.kn .i64 0)]) z.1 z.2⟩
theorem sRoot_k : sRoot_i.OK Tryz.prog := mkF hmix 83 Tryz.func146 rfl rfl (by decide) [(53, .c rsign_c), (97, .c mul_c), (191, .c sscaled_c), (192, .c sroot_c), (193, .c cmp_c), (194, .c rnorm_c)] (fun _ => rfl) (fun _ => rfl) (fun _ _ => rfl) (fun (s : Rat × Rat) (k : Int) b hx hp => tup_cons (agg_ok (rootS_b (Bnds.h2 hx).1 (by have := hp _ (List.mem_cons_of_mem _ List.mem_cons_self); omega))) (tup_cons kn_ok tup_nil)) (fun (s : Rat × Rat) (k : Int) hx hp => by
 have hx1 : Int.natAbs k ≤ 9223372036854775808 := hx.2
 have hp0 : 0 ≤ k := hp _ (List.mem_cons_self)
 have hp1 : k ≤ 64 := hp _ (List.mem_cons_of_mem _ (List.mem_cons_self))
 have hp2 : s.1 = s.2 := hp _ (List.mem_cons_of_mem _ (List.mem_cons_of_mem _ (List.mem_cons_self)))
 have hp3 : ¬ s.2.num < 0 := hp _ (List.mem_cons_of_mem _ (List.mem_cons_of_mem _ (List.mem_cons_of_mem _ (List.mem_cons_self))))
 exact ⟨.cond (.dead) ((fun (k1 : Int) => .h 4 0 (.mk (.im (.nat .u32) (.n 4294967295))) (.h 4 2 (.c shup1Z_c) (.cond (.cond (.h 12 1 (.mk (.im (.nat .u32) (.n 4294967295))) (.h 12 2 (.c add1_c) (.nil))) (.cond (.h 12 1 (.mk (.im (.nat .u32) (.n 4294967295))) (.h 12 2 (.c add1_c) (.nil))) (.nil))) (.cond (.h 12 1 (.mk (.im (.nat .u32) (.n 4294967295))) (.h 12 2 (.c add1_c) (.nil))) (.cond (.h 12 1 (.mk (.im (.nat .u32) (.n 4294967295))) (.h 12 2 (.c add1_c) (.nil))) (.nil)))))) (min (max k 0) 4096)), kcast (by kernel_rfl) (And.intro (fun (h1 : sgnQ s.2 < 0) => (hp3 (sgn_lt.1 h1) : False)) (fun (h2 : ¬ (sgnQ s.2 < 0)) => (fun (k1 : Int) (hk1 : k1 = min (max k 0) 4096) => have hk := (show k1 = k by omega); I (Eq.refl [1]) (I (by omega : 0 ≤ k1) (I (by omega : k1 ≤ 16384) (And.intro (fun (h3 : 0 < sgnQ s.1) => I (by omega : 0 ≤ k1) (I (by omega : k1 ≤ 64) (I (by omega : 0 ≤ k1) (I (by omega : k1 ≤ 64) (And.intro (fun (h4 : scm s.2 k1.toNat = true) => I (Eq.refl [1]) (I ((by rw [Nat.one_mul]; exact Nat.pow_pos (by omega)) : 0 < (false, isq (sc s.1 k1.toNat), 1 * 2 ^ k1.toNat).2.2) (I ((by rw [Nat.one_mul]; exact Nat.pow_pos (by omega)) : 0 < (false, (isq (sc s.2 k1.toNat)) + 1, 1 * 2 ^ k1.toNat).2.2) ((by rw [← hk]; exact Prod.ext (by rw [hp2]; exact rootLo_e hp3) (rootHi_1 hp3 (.inl h4)) : (sgQ (false, isq (sc s.1 k1.toNat), 1 * 2 ^ k1.toNat).1 (false, isq (sc s.1 k1.toNat), 1 * 2 ^ k1.toNat).2.1 (false, isq (sc s.1 k1.toNat), 1 * 2 ^ k1.toNat).2.2, sgQ (false, (isq (sc s.2 k1.toNat)) + 1, 1 * 2 ^ k1.toNat).1 (false, (isq (sc s.2 k1.toNat)) + 1, 1 * 2 ^ k1.toNat).2.1 (false, (isq (sc s.2 k1.toNat)) + 1, 1 * 2 ^ k1.toNat).2.2) = (rootLo s.2 k.toNat, rootHi s.2 k.toNat)))))) (fun (h5 : ¬ (scm s.2 k1.toNat = true)) => And.intro (fun (h6 : cmpN ((isq (sc s.2 k1.toNat)) * (isq (sc s.2 k1.toNat))) (sc s.2 k1.toNat) < 0) => I (Eq.refl [1]) (I ((by rw [Nat.one_mul]; exact Nat.pow_pos (by omega)) : 0 < (false, isq (sc s.1 k1.toNat), 1 * 2 ^ k1.toNat).2.2) (I ((by rw [Nat.one_mul]; exact Nat.pow_pos (by omega)) : 0 < (false, (isq (sc s.2 k1.toNat)) + 1, 1 * 2 ^ k1.toNat).2.2) ((by rw [← hk]; exact Prod.ext (by rw [hp2]; exact rootLo_e hp3) (rootHi_1 hp3 (.inr h6)) : (sgQ (false, isq (sc s.1 k1.toNat), 1 * 2 ^ k1.toNat).1 (false, isq (sc s.1 k1.toNat), 1 * 2 ^ k1.toNat).2.1 (false, isq (sc s.1 k1.toNat), 1 * 2 ^ k1.toNat).2.2, sgQ (false, (isq (sc s.2 k1.toNat)) + 1, 1 * 2 ^ k1.toNat).1 (false, (isq (sc s.2 k1.toNat)) + 1, 1 * 2 ^ k1.toNat).2.1 (false, (isq (sc s.2 k1.toNat)) + 1, 1 * 2 ^ k1.toNat).2.2) = (rootLo s.2 k.toNat, rootHi s.2 k.toNat)))))) (fun (h7 : ¬ (cmpN ((isq (sc s.2 k1.toNat)) * (isq (sc s.2 k1.toNat))) (sc s.2 k1.toNat) < 0)) => I ((by rw [Nat.one_mul]; exact Nat.pow_pos (by omega)) : 0 < (false, isq (sc s.1 k1.toNat), 1 * 2 ^ k1.toNat).2.2) (I ((by rw [Nat.one_mul]; exact Nat.pow_pos (by omega)) : 0 < (false, isq (sc s.2 k1.toNat), 1 * 2 ^ k1.toNat).2.2) ((by rw [← hk]; exact Prod.ext (by rw [hp2]; exact rootLo_e hp3) (rootHi_2 hp3 h5 h7) : (sgQ (false, isq (sc s.1 k1.toNat), 1 * 2 ^ k1.toNat).1 (false, isq (sc s.1 k1.toNat), 1 * 2 ^ k1.toNat).2.1 (false, isq (sc s.1 k1.toNat), 1 * 2 ^ k1.toNat).2.2, sgQ (false, isq (sc s.2 k1.toNat), 1 * 2 ^ k1.toNat).1 (false, isq (sc s.2 k1.toNat), 1 * 2 ^ k1.toNat).2.1 (false, isq (sc s.2 k1.toNat), 1 * 2 ^ k1.toNat).2.2) = (rootLo s.2 k.toNat, rootHi s.2 k.toNat))))))))))) (fun (h8 : ¬ (0 < sgnQ s.1)) => I (by omega : 0 ≤ k1) (I (by omega : k1 ≤ 64) (And.intro (fun (h9 : scm s.2 k1.toNat = true) => I (Eq.refl [1]) (I ((by rw [Nat.one_mul]; exact Nat.pow_pos (by omega)) : 0 < (false, 0, 1 * 2 ^ k1.toNat).2.2) (I ((by rw [Nat.one_mul]; exact Nat.pow_pos (by omega)) : 0 < (false, (isq (sc s.2 k1.toNat)) + 1, 1 * 2 ^ k1.toNat).2.2) ((by rw [← hk]; exact Prod.ext (rootLo_z hp3 (by rw [← hp2]; exact h8)) (rootHi_1 hp3 (.inl h9)) : (sgQ (false, 0, 1 * 2 ^ k1.toNat).1 (false, 0, 1 * 2 ^ k1.toNat).2.1 (false, 0, 1 * 2 ^ k1.toNat).2.2, sgQ (false, (isq (sc s.2 k1.toNat)) + 1, 1 * 2 ^ k1.toNat).1 (false, (isq (sc s.2 k1.toNat)) + 1, 1 * 2 ^ k1.toNat).2.1 (false, (isq (sc s.2 k1.toNat)) + 1, 1 * 2 ^ k1.toNat).2.2) = (rootLo s.2 k.toNat, rootHi s.2 k.toNat)))))) (fun (h10 : ¬ (scm s.2 k1.toNat = true)) => And.intro (fun (h11 : cmpN ((isq (sc s.2 k1.toNat)) * (isq (sc s.2 k1.toNat))) (sc s.2 k1.toNat) < 0) => I (Eq.refl [1]) (I ((by rw [Nat.one_mul]; exact Nat.pow_pos (by omega)) : 0 < (false, 0, 1 * 2 ^ k1.toNat).2.2) (I ((by rw [Nat.one_mul]; exact Nat.pow_pos (by omega)) : 0 < (false, (isq (sc s.2 k1.toNat)) + 1, 1 * 2 ^ k1.toNat).2.2) ((by rw [← hk]; exact Prod.ext (rootLo_z hp3 (by rw [← hp2]; exact h8)) (rootHi_1 hp3 (.inr h11)) : (sgQ (false, 0, 1 * 2 ^ k1.toNat).1 (false, 0, 1 * 2 ^ k1.toNat).2.1 (false, 0, 1 * 2 ^ k1.toNat).2.2, sgQ (false, (isq (sc s.2 k1.toNat)) + 1, 1 * 2 ^ k1.toNat).1 (false, (isq (sc s.2 k1.toNat)) + 1, 1 * 2 ^ k1.toNat).2.1 (false, (isq (sc s.2 k1.toNat)) + 1, 1 * 2 ^ k1.toNat).2.2) = (rootLo s.2 k.toNat, rootHi s.2 k.toNat)))))) (fun (h12 : ¬ (cmpN ((isq (sc s.2 k1.toNat)) * (isq (sc s.2 k1.toNat))) (sc s.2 k1.toNat) < 0)) => I ((by rw [Nat.one_mul]; exact Nat.pow_pos (by omega)) : 0 < (false, 0, 1 * 2 ^ k1.toNat).2.2) (I ((by rw [Nat.one_mul]; exact Nat.pow_pos (by omega)) : 0 < (false, isq (sc s.2 k1.toNat), 1 * 2 ^ k1.toNat).2.2) ((by rw [← hk]; exact Prod.ext (rootLo_z hp3 (by rw [← hp2]; exact h8)) (rootHi_2 hp3 h10 h12) : (sgQ (false, 0, 1 * 2 ^ k1.toNat).1 (false, 0, 1 * 2 ^ k1.toNat).2.1 (false, 0, 1 * 2 ^ k1.toNat).2.2, sgQ (false, isq (sc s.2 k1.toNat), 1 * 2 ^ k1.toNat).1 (false, isq (sc s.2 k1.toNat), 1 * 2 ^ k1.toNat).2.1 (false, isq (sc s.2 k1.toNat), 1 * 2 ^ k1.toNat).2.2) = (rootLo s.2 k.toNat, rootHi s.2 k.toNat))))))))))))) (min (max k 0) 4096) rfl))⟩)
abbrev sRoot_c : Ctr Tryz.prog := FI.c sRoot_k
abbrev mRoot_i : FI := ⟨90, [.rat, (.int .i64)], [(.n 15000), (.n 9223372036854775808)], fun z => (fun (r : Rat) (k : Int) => [0 ≤ k, k ≤ 64]) z.1 z.2, fun b z => (fun (r : Rat) (k : Int) => .tup [.agg [.dt (.pr .rat .rat) (.p (.n ((b0 b).nb + 130)) (.n ((b0 b).nb + 130))) (rootLo r k.toNat, rootHi r k.toNat)], .one (.dt .bool .u (decide (¬ r.num < 0)))]) z.1 z.2⟩
theorem mRoot_k : mRoot_i.OK Tryz.prog := mkF hmix 37 Tryz.func90 rfl rfl (by decide) [(53, .c rsign_c), (103, .c orat_c), (146, .c sRoot_c), (147, .c spoint_c)] (fun _ => rfl) (fun _ => rfl) (fun _ _ => rfl) (fun (r : Rat) (k : Int) b hx hp => tup_cons (agg_ok ⟨rootLo_b (Bnds.h2 hx).1 (by have := hp _ (List.mem_cons_of_mem _ List.mem_cons_self); omega), rootHi_b (Bnds.h2 hx).1 (by have := hp _ (List.mem_cons_of_mem _ List.mem_cons_self); omega)⟩) (tup_cons (one_ok trivial rfl) tup_nil)) (fun (r : Rat) (k : Int) hx hp => by
 have hx1 : Int.natAbs k ≤ 9223372036854775808 := hx.2
 have hp0 : 0 ≤ k := hp _ (List.mem_cons_self)
 have hp1 : k ≤ 64 := hp _ (List.mem_cons_of_mem _ (List.mem_cons_self))
 exact ⟨.cond (.nil) (.cond (.dead) (.cond (.dead) (.nil))), kcast (by kernel_rfl) (And.intro (fun (h1 : sgnQ r < 0) => And.intro (Prod.ext (lo_neg (sgn_lt.1 h1)) (hi_neg (sgn_lt.1 h1)) : (0, 0) = (rootLo r k.toNat, rootHi r k.toNat)) ((decide_eq_false (fun e => e (sgn_lt.1 h1))).symm : false = decide (¬ r.num < 0))) (fun (h2 : ¬ (sgnQ r < 0)) => And.intro (fun (h3 : k < 0) => (by omega : False)) (fun (h4 : ¬ (k < 0)) => And.intro (fun (h5 : 64 < k) => (by omega : False)) (fun (h6 : ¬ (64 < k)) => have hnn := mt sgn_lt.2 h2; I (by omega : 0 ≤ k) (I (by omega : k ≤ 64) (I (rfl : (r, r).1 = (r, r).2) (I (hnn : ¬ (r, r).2.num < 0) (And.intro (rfl : (rootLo (r, r).2 k.toNat, rootHi (r, r).2 k.toNat) = (rootLo r k.toNat, rootHi r k.toNat)) ((decide_eq_true (mt sgn_lt.2 h2)).symm : true = decide (¬ r.num < 0))))))))))⟩)
abbrev mRoot_c : Ctr Tryz.prog := FI.c mRoot_k
end Go.Proofs.YtcjgaaibflcdiaaGreat.Sx

namespace Go.Proofs.YtcjgaaibflcdiaaGreat.Sx
open Go
set_option linter.unusedVariables false
theorem cmpQ_le {x y : Rat} : cmpQ x y ≤ 0 ↔ x ≤ y := by
  rw [cmpQ_eq, Rat.le_iff]; split
  · omega
  · split <;> omega
theorem cmpQ_ge {x y : Rat} : 0 ≤ cmpQ x y ↔ y ≤ x := by
  rw [cmpQ_eq, Rat.le_iff]; split
  · omega
  · split <;> omega
theorem sg_le {n D : Nat} {r : Rat} (hD : 0 < D) (h0 : ¬ r.num < 0) : sgQ false n D ≤ r ↔ n ≤ r.num.natAbs * D / r.den := by
  obtain ⟨e1, e2⟩ := sgQ_norm (neg := false) (n := n) hD
  have hg : 0 < Nat.gcd n D := Nat.gcd_pos_of_pos_right _ hD
  have g1 : Nat.gcd n D * (n / Nat.gcd n D) = n := Nat.mul_div_cancel' (Nat.gcd_dvd_left _ _)
  have g2 : Nat.gcd n D * (D / Nat.gcd n D) = D := Nat.mul_div_cancel' (Nat.gcd_dvd_right _ _)
  rw [Rat.le_iff, e1, e2, Nat.le_div_iff_mul_le (Nat.pos_of_ne_zero r.den_nz)]
  have e3 : sgI false n / ((Nat.gcd n D : Nat) : Int) = ((n / Nat.gcd n D : Nat) : Int) := by simp [sgI]
  have e4 : r.num = ((r.num.natAbs : Nat) : Int) := by omega
  rw [e3, e4, Int.natAbs_natCast]
  generalize r.num.natAbs = R at *
  generalize n / Nat.gcd n D = a at *
  generalize D / Nat.gcd n D = c at *
  generalize Nat.gcd n D = g at *
  subst g1 g2
  rw [← Int.natCast_mul, ← Int.natCast_mul, Int.ofNat_le, Nat.mul_assoc, Nat.mul_left_comm R g c]
  exact (Nat.mul_le_mul_left_iff hg).symm
def dq (K a : Nat) : Rat := sgQ false a (2 ^ K)
theorem dq_div (K a : Nat) : dq K a = (((a : Nat) : Int) : Rat) / ((2 ^ K : Nat) : Rat) := by unfold dq sgQ sgI; rw [Rat.mkRat_eq_div]; rfl
theorem two_ne (K : Nat) : ((2 ^ K : Nat) : Rat) ≠ 0 := by
  intro h
  have := Nat.pow_pos (n := K) (show 0 < 2 by omega)
  have h2 : ((2 ^ K : Nat) : Rat) = ((0 : Nat) : Rat) := h
  rw [Rat.natCast_inj] at h2
  omega
theorem dq_add (K a b : Nat) : dq K a + dq K b = dq K (a + b) := by
  have h := two_ne K
  rw [dq_div, dq_div, dq_div, Int.natCast_add, Rat.intCast_add]
  grind
theorem dq_half (K a : Nat) : dq K (2 * a) * (((1 : Int) : Rat) / ((2 : Int) : Rat)) = dq K a := by
  have h := two_ne K
  rw [dq_div, dq_div, Int.natCast_mul, Rat.intCast_mul]
  have h1 : ((1 : Int) : Rat) = 1 := rfl
  have h2 : ((2 : Int) : Rat) = 2 := rfl
  have h3 : ((((2 : Nat) : Int)) : Rat) = 2 := rfl
  rw [h1, h2, h3]; grind
theorem dq_succ (K a : Nat) : dq (K + 1) (2 * a) = dq K a := by unfold dq; rw [Nat.pow_succ, Nat.mul_comm 2 a, sgQ_scale _ _ _ _ (by omega)]
theorem dq_one (K : Nat) : ((1 : Int) : Rat) = dq K (2 ^ K) := by
  have h := two_ne K
  rw [dq_div]
  have h1 : ((1 : Int) : Rat) = 1 := rfl
  have h2 : (((2 ^ K : Nat) : Int) : Rat) = ((2 ^ K : Nat) : Rat) := rfl
  rw [h1, h2]; grind
theorem dq_zero (K : Nat) : (0 : Rat) = dq K 0 := (sgQ_zero _ _).symm
theorem dq_sq (K a : Nat) : dq K a * dq K a = sgQ false (a * a) (2 ^ K * 2 ^ K) := sgQ_mul false false a a (2 ^ K) (2 ^ K)
theorem dq_cmp {r : Rat} (h0 : ¬ r.num < 0) (K a : Nat) : cmpQ (dq K a * dq K a) r ≤ 0 ↔ a * a ≤ sc r K := by
  rw [cmpQ_le, dq_sq, sg_le (Nat.mul_pos (Nat.pow_pos (by omega)) (Nat.pow_pos (by omega))) h0, sc, Nat.mul_assoc]
theorem dq_num (K a : Nat) : (dq K a * ((2 ^ K : Nat) : Rat)).num.natAbs = a := by
  have h := two_ne K
  have e : dq K a * ((2 ^ K : Nat) : Rat) = (((a : Nat) : Int) : Rat) := by rw [dq_div]; grind
  rw [e, int_num]; rfl
theorem dq_le (K a b : Nat) : 0 ≤ cmpQ (dq K a) (dq K b) ↔ b ≤ a := by
  have h := two_ne K
  have hp : (0 : Rat) < ((2 ^ K : Nat) : Rat) := by
    have := Nat.pow_pos (n := K) (show 0 < 2 by omega)
    have h2 : ((0 : Nat) : Rat) < ((2 ^ K : Nat) : Rat) := Rat.natCast_lt_natCast.2 this
    exact h2
  rw [cmpQ_ge, ← Rat.not_lt]
  have e : dq K b * ((2 ^ K : Nat) : Rat) = (((b : Nat) : Int) : Rat) := by rw [dq_div]; grind
  rw [dq_div K a, Rat.div_lt_iff hp, e, Rat.intCast_lt_intCast]
  omega
theorem dq_b {K a m : Nat} (h : lt2 a m) (hK : K ≤ m) : Bnd .rat (.n m) (dq K a) := sgQ_bnd h (Nat.pow_le_pow_right (by omega) hK) (Nat.pow_pos (by omega))
structure St1 (r : Rat) (K : Nat) (s : Rat) : Prop where
  h : ∃ i, s = dq K (2 ^ (K + i)) ∧ 2 ^ (K + i) ≤ 2 * sc r K + 2 ^ K
def numA (K : Nat) (s : Rat) : Nat := (s * ((2 ^ K : Nat) : Rat)).num.natAbs
def mu1 (r : Rat) (K : Nat) (s : Rat) : Nat := 2 * sc r K + 2 ^ K + 1 - numA K s
theorem St1.start (r : Rat) (K : Nat) : St1 r K ((1 : Int) : Rat) := ⟨0, dq_one K, by rw [Nat.add_zero]; omega⟩
theorem St1.step {r : Rat} {K : Nat} {s : Rat} (h : St1 r K s) (h0 : ¬ r.num < 0) (hc : cmpQ (s * s) r ≤ 0) : St1 r K (s + s) ∧ mu1 r K (s + s) < mu1 r K s := by
  obtain ⟨i, rfl, hi⟩ := h.h
  rw [dq_cmp h0] at hc
  have hp := Nat.pow_pos (n := K + i) (show 0 < 2 by omega)
  have hq := Nat.le_mul_of_pos_left (2 ^ (K + i)) hp
  have hK := Nat.pow_pos (n := K) (show 0 < 2 by omega)
  have e : 2 ^ (K + i) + 2 ^ (K + i) = 2 ^ (K + (i + 1)) := by rw [← Nat.add_assoc, Nat.pow_succ]; omega
  refine ⟨⟨i + 1, by rw [dq_add, e], by omega⟩, ?_⟩
  rw [dq_add, mu1, mu1, numA, numA, dq_num, dq_num]; omega
theorem St1.bnd {r : Rat} {K : Nat} {s : Rat} (h : St1 r K s) {m : Nat} (hN : lt2 (sc r K) m) (hK : K ≤ m) : Bnd .rat (.n (m + 2)) s := by
  obtain ⟨i, rfl, hi⟩ := h.h
  refine dq_b ?_ (by omega)
  have h2 := Nat.pow_le_pow_right (show 0 < 2 by omega) hK
  unfold lt2 at *
  rw [show m + 2 = (m + 1) + 1 by omega, Nat.pow_succ, Nat.pow_succ]; omega
structure St2 (r : Rat) (K : Nat) (s l : Rat) : Prop where
  h : ∃ i a, s = dq K (2 ^ i) ∧ l = dq K a ∧ 2 ^ (i + 1) ∣ a ∧ a * a ≤ sc r K ∧ sc r K < (a + 2 ^ (i + 1)) * (a + 2 ^ (i + 1)) ∧ 2 ^ i ≤ 2 * sc r K + 2 ^ K
theorem St2.start {r : Rat} {K : Nat} {s : Rat} (h : St1 r K s) (h0 : ¬ r.num < 0) (hc : ¬ cmpQ (s * s) r ≤ 0) : St2 r K s 0 := by
  obtain ⟨i, rfl, hi⟩ := h.h
  rw [dq_cmp h0] at hc
  refine ⟨K + i, 0, rfl, dq_zero K, Nat.dvd_zero _, by omega, ?_, hi⟩
  have := Nat.mul_le_mul (Nat.pow_le_pow_right (show 0 < 2 by omega) (Nat.le_add_right (K + i) 1)) (Nat.pow_le_pow_right (show 0 < 2 by omega) (Nat.le_add_right (K + i) 1))
  rw [Nat.zero_add]; omega
theorem sc_succ (r : Rat) (k m : Nat) : (4 * (m * m) ≤ sc r (k + 1) → m * m ≤ sc r k) ∧ (sc r (k + 1) < 4 * ((m + 1) * (m + 1)) → sc r k < (m + 1) * (m + 1)) := by
  have hd := Nat.pos_of_ne_zero r.den_nz
  have e : r.num.natAbs * 2 ^ (k + 1) * 2 ^ (k + 1) = 4 * (r.num.natAbs * 2 ^ k * 2 ^ k) := by rw [Nat.pow_succ]; generalize 2 ^ k = p; generalize r.num.natAbs = R; grind
  unfold sc
  rw [e]
  generalize r.num.natAbs * 2 ^ k * 2 ^ k = X
  refine ⟨fun h => ?_, fun h => ?_⟩
  · rw [Nat.le_div_iff_mul_le hd] at h ⊢
    rw [Nat.mul_assoc] at h; omega
  · rw [Nat.div_lt_iff_lt_mul hd] at h ⊢
    rw [Nat.mul_assoc] at h; omega
theorem St2.fin {r : Rat} {j : Nat} {s l : Rat} (h : St2 r (j + 1) s l) (h0 : ¬ r.num < 0) (ht : ¬ 0 ≤ cmpQ s (dq j 1)) : l = rootLo r j := by
  obtain ⟨i, a, rfl, rfl, hd, h1, h2, h3⟩ := h.h
  rw [← dq_succ j 1, dq_le] at ht
  have hp := Nat.pow_pos (n := i) (show 0 < 2 by omega)
  have hi : i = 0 := by
    rcases Nat.eq_zero_or_pos i with e | e
    · exact e
    · have := Nat.pow_le_pow_right (show 0 < 2 by omega) (show 1 ≤ i by omega)
      omega
  subst hi
  obtain ⟨m, rfl⟩ := hd
  rw [show (2 : Nat) ^ (0 + 1) = 2 by rfl] at *
  have e1 : 2 * m * (2 * m) = 4 * (m * m) := by grind
  have e2 : (2 * m + 2) * (2 * m + 2) = 4 * ((m + 1) * (m + 1)) := by grind
  rw [e1] at h1
  rw [e2] at h2
  have := isq_of ((sc_succ r j m).1 h1) ((sc_succ r j m).2 h2)
  rw [dq_succ, dq, this, rootLo, if_neg h0]
theorem St2.bnd {r : Rat} {K : Nat} {s l : Rat} (h : St2 r K s l) {m : Nat} (hN : lt2 (sc r K) m) (hK : K ≤ m) : Bnd .rat (.n (m + 2)) s ∧ Bnd .rat (.n (m + 2)) l := by
  obtain ⟨i, a, rfl, rfl, hd, h1, h2, h3⟩ := h.h
  have h5 := Nat.pow_le_pow_right (show 0 < 2 by omega) hK
  refine ⟨dq_b ?_ (by omega), dq_b ?_ (by omega)⟩
  · unfold lt2 at *
    rw [show m + 2 = (m + 1) + 1 by omega, Nat.pow_succ, Nat.pow_succ]; omega
  · have : a ≤ sc r K := by
      rcases Nat.eq_zero_or_pos a with e | e
      · omega
      · have := Nat.le_mul_of_pos_left a e; omega
    exact lt2_mono (by omega) (lt2_le hN this)
structure Two (m : Int) (z : Int) (v : Rat) : Prop where
  h : v = dq (z - m).toNat 1
  hm : m ≤ z
  hz : z ≤ 0
theorem Two.start {m : Int} (hm : m ≤ 0) : Two m m (((1 : Int) : Rat) / ((1 : Int) : Rat)) := by
  refine ⟨?_, Int.le_refl _, hm⟩
  rw [show (m - m).toNat = 0 by omega]
  decide +kernel
theorem Two.step {m z : Int} {v : Rat} (h : Two m z v) (hz : z < 0) : Two m (z + 1) (v * (((1 : Int) : Rat) / ((2 : Int) : Rat))) := by
  have h1 := h.hm
  refine ⟨?_, by omega, by omega⟩
  rw [h.h, show (z + 1 - m).toNat = (z - m).toNat + 1 by omega, ← dq_half ((z - m).toNat + 1) 1, ← dq_succ (z - m).toNat 1]
theorem Two.bnd {m z : Int} {v : Rat} (h : Two m z v) (hm : -64 ≤ m) : Bnd .rat (.n 66) v := by
  have h1 := h.hz
  rw [h.h]; exact dq_b (lt2_one (by omega)) (by omega)
theorem Two.fin {m z : Int} {v : Rat} (h : Two m z v) (hz : ¬ z < 0) : v = dq (-m).toNat 1 := by
  have h1 := h.hz
  rw [h.h, show z - m = -m by omega]
theorem St2.fin' {r : Rat} {j : Nat} {s l w : Rat} (h : St2 r (j + 1) s l) (h0 : ¬ r.num < 0) (hw : w = dq j 1) (ht : ¬ 0 ≤ cmpQ s w) : l = rootLo r j := by subst hw; exact h.fin h0 ht
end Go.Proofs.YtcjgaaibflcdiaaGreat.Sx

namespace Go.Proofs.YtcjgaaibflcdiaaGreat.Sx
open Go Go.Proofs
set_option linter.unusedVariables false
set_option linter.unusedSimpArgs false
set_option maxRecDepth 20000
set_option maxHeartbeats 4000000
end Go.Proofs.YtcjgaaibflcdiaaGreat.Sx

namespace Go.Proofs.YtcjgaaibflcdiaaGreat.Sx
open Go
set_option linter.unusedVariables false
def xL (f : Four4) (m : Rat) (p : List Rat) : List Rat := subL p (scaleL m f.2.2.2)
def sumL (f : Four4) (m : V3) : List Rat := addL (addL (mulL (xL f m.1 f.1) (xL f m.1 f.1)) (mulL (xL f m.2.1 f.2.1) (xL f m.2.1 f.2.1))) (mulL (xL f m.2.2 f.2.2.1) (xL f m.2.2 f.2.2.1))
def wtL (f : Four4) : List Rat := mulL f.2.2.2 f.2.2.2
def qq (f : Four4) (m : V3) (i : Nat) : Rat := (sumL f m).getD i 0 / (wtL f).getD i 0
def reachF (f : Four4) (m : V3) : Rat × Rat :=
  (minQ (minQ (minQ (minQ (minQ (qq f m 0) (qq f m 0)) (qq f m 1)) (qq f m 2)) (qq f m 3)) (qq f m 4), maxQ (maxQ (maxQ (maxQ (maxQ (qq f m 0) (qq f m 0)) (qq f m 1)) (qq f m 2)) (qq f m 3)) (qq f m 4))
def reachV (c : Curve) (m : V3) : Rat × Rat := reachF (numsV c.2.2) m
abbrev bPole (m : Nat) : Bd := .p (bV3 m) (.n m)
abbrev bCurve (m : Nat) : Bd := .p (.n 6) (.p (.s 6 (.n m)) (.s 3 (bPole m)))
theorem sl_le {l : List Rat} {k a c : Nat} (h : Bnd (.sl .rat) (.s k (.n a)) l) (hm : a ≤ c) : Bnd (.sl .rat) (.s k (.n c)) l := ⟨h.1, fun v hv => rat_le (h.2 v hv) hm⟩
theorem four_b {f : Four4} {k a : Nat} (h : Bnd tFour4 (bFour4 k a) f) : Bnd (.sl .rat) (.s k (.n a)) f.1 ∧ Bnd (.sl .rat) (.s k (.n a)) f.2.1 ∧ Bnd (.sl .rat) (.s k (.n a)) f.2.2.1 ∧ Bnd (.sl .rat) (.s k (.n a)) f.2.2.2 := h
theorem xsq_b {w p : List Rat} {m : Rat} {a : Nat} (hp : Bnd (.sl .rat) (.s 3 (.n a)) p) (hw : Bnd (.sl .rat) (.s 3 (.n a)) w) (hm : Bnd .rat (.n 4000) m) : Bnd (.sl .rat) (.s 5 (.n (9 * (4 * a + 8007) + 3))) (mulL (subL p (scaleL m w)) (subL p (scaleL m w))) := by
  have h1 := subL_b hp (scaleL_b hm hw)
  have h2 := mulL_b h1 h1
  refine sl_le h2 ?_
  simp only [Bd.mx]; omega
theorem reachF_b {f : Four4} {m : V3} (hf : Bnd tFour4 (bFour4 3 8000) f) (hm : Bnd tV3 (bV3 4000) m) : Bnd (.pr .rat .rat) (.p (.n 2000000) (.n 2000000)) (reachF f m) := by
  obtain ⟨f1, f2, f3, f4⟩ := four_b hf
  have s1 := xsq_b f1 f4 hm.1
  have s2 := xsq_b f2 f4 hm.2.1
  have s3 := xsq_b f3 f4 hm.2.2
  have h := addL_b (addL_b s1 s2) s3
  have hw := mulL_b f4 f4
  have key : ∀ i, Bnd .rat (.n 2000000) (qq f m i) := fun i => by
    refine rat_le (div_b (getD_nb h i) (getD_nb hw i)) ?_
    simp only [Bd.mx]; omega
  have mn : ∀ {x y : Rat}, Bnd .rat (.n 2000000) x → Bnd .rat (.n 2000000) y → Bnd .rat (.n 2000000) (minQ x y) := fun hx hy => by unfold minQ; split <;> assumption
  have mxx : ∀ {x y : Rat}, Bnd .rat (.n 2000000) x → Bnd .rat (.n 2000000) y → Bnd .rat (.n 2000000) (maxQ x y) := fun hx hy => by unfold maxQ; split <;> assumption
  exact ⟨mn (mn (mn (mn (mn (key 0) (key 0)) (key 1)) (key 2)) (key 3)) (key 4), mxx (mxx (mxx (mxx (mxx (key 0) (key 0)) (key 1)) (key 2)) (key 3)) (key 4)⟩
theorem reachV_b {c : Curve} {m : V3} (hc : Bnd tCurve (bCurve 4000) c) (hl : c.2.2.length = 3) (hm : Bnd tV3 (bV3 4000) m) : Bnd (.pr .rat .rat) (.p (.n 2000000) (.n 2000000)) (reachV c m) := by
  refine reachF_b ?_ hm
  have h := numsV_b hc hl
  have e : 2 * (bCurve 4000).mx = 8000 := by decide
  rwa [e] at h
theorem nums_len {l : List Pole} (h : l.length = 3) : (numsV l).1.length = 3 ∧ (numsV l).2.1.length = 3 ∧ (numsV l).2.2.1.length = 3 ∧ (numsV l).2.2.2.length = 3 := by simp [numsV, h]
theorem x_len {p w : List Rat} {m : Rat} (hp : p.length = 3) (hw : w.length = 3) : (subL p (scaleL m w)).length = 3 := by rw [subL_len (by rw [scaleL_len]; omega), hp]
abbrev ArcR : Type := Curve × V3 × (Rat × Rat) × Int
def zeroA (e : Int) : ArcR := ((0, [], []), (0, 0, 0), (0, 0), e)
abbrev arcU (d e : V3) (k : Int) : Rat := rootLo (dotQ d d / dotQ e e) k.toNat
abbrev arcF (d e : V3) (k : Int) : V3 := scaleV (arcU d e k) e
abbrev arcDF (d e : V3) (k : Int) : Rat := dotQ d (arcF d e k)
abbrev arcW (d e : V3) (k : Int) : Rat := rootLo ((dotQ d d - arcDF d e k) / (dotQ d d + dotQ d d)) k.toNat
abbrev arcM (d e : V3) (k : Int) : Rat := dotQ d d / (dotQ d d + arcDF d e k)
abbrev arcCen (p d e : V3) (k : Int) : V3 := addV p (scaleV (arcM d e k) (addV d (arcF d e k)))
abbrev arcCv (p d e : V3) (k : Int) : Curve := (2, [0, 0, 0, ((1 : Int) : Rat), ((1 : Int) : Rat), ((1 : Int) : Rat)], [(addV p d, ((1 : Int) : Rat)), (p, arcW d e k), (addV p (arcF d e k), ((1 : Int) : Rat))])
def arcR (p d e : V3) (k : Int) : ArcR :=
  if k < 0 ∨ 64 < k then zeroA 1 else
  if crossQ d e = (0, 0, 0) then zeroA 9 else
  if sgnQ (arcU d e k) = 0 ∨ sgnQ (arcW d e k) = 0 then zeroA 6 else
  if quoC (dotQ d d + arcDF d e k) ≠ 0 then zeroA 7 else
  (arcCv p d e k, arcCen p d e k, reachV (arcCv p d e k) (arcCen p d e k), 0)
section
variable {p d e : V3} {k : Int}
theorem arc_1 (h : k < 0 ∨ 64 < k) : zeroA 1 = arcR p d e k := by unfold arcR; rw [if_pos h]
theorem arc_2 (h : ¬ (k < 0 ∨ 64 < k)) (h2 : crossQ d e = (0, 0, 0)) : zeroA 9 = arcR p d e k := by unfold arcR; rw [if_neg h, if_pos h2]
theorem arc_3 (h : ¬ (k < 0 ∨ 64 < k)) (h2 : ¬ crossQ d e = (0, 0, 0)) (h3 : sgnQ (arcU d e k) = 0 ∨ sgnQ (arcW d e k) = 0) : zeroA 6 = arcR p d e k := by unfold arcR; rw [if_neg h, if_neg h2, if_pos h3]
theorem arc_4 (h : ¬ (k < 0 ∨ 64 < k)) (h2 : ¬ crossQ d e = (0, 0, 0)) (h3 : ¬ (sgnQ (arcU d e k) = 0 ∨ sgnQ (arcW d e k) = 0)) (h4 : quoC (dotQ d d + arcDF d e k) ≠ 0) : zeroA 7 = arcR p d e k := by unfold arcR; rw [if_neg h, if_neg h2, if_neg h3, if_pos h4]
theorem arc_5 (h : ¬ (k < 0 ∨ 64 < k)) (h2 : ¬ crossQ d e = (0, 0, 0)) (h3 : ¬ (sgnQ (arcU d e k) = 0 ∨ sgnQ (arcW d e k) = 0)) (h4 : ¬ quoC (dotQ d d + arcDF d e k) ≠ 0) :
    (arcCv p d e k, arcCen p d e k, reachV (arcCv p d e k) (arcCen p d e k), (0 : Int)) = arcR p d e k := by unfold arcR; rw [if_neg h, if_neg h2, if_neg h3, if_neg h4]
end
theorem one_b (m : Nat) (h : 1 ≤ m) : Bnd .rat (.n m) ((1 : Int) : Rat) := rat_le (a := 1) ⟨by unfold lt2; decide, by unfold le2; decide⟩ h
theorem v3_le {x : V3} {a c : Nat} (h : Bnd tV3 (bV3 a) x) (hm : a ≤ c) : Bnd tV3 (bV3 c) x := ⟨rat_le h.1 hm, rat_le h.2.1 hm, rat_le h.2.2 hm⟩
structure ArcB (p d e : V3) (k : Int) : Prop where
  w : Bnd .rat (.n 4000) (arcW d e k)
  f : Bnd tV3 (bV3 400) (arcF d e k)
  c : Bnd tV3 (bV3 4000) (arcCen p d e k)
  cv : Bnd tCurve (bCurve 4000) (arcCv p d e k)
theorem arc_b {p d e : V3} {k : Int} (hp : Bnd tV3 (bV3 16) p) (hd : Bnd tV3 (bV3 16) d) (he : Bnd tV3 (bV3 16) e) (hk : ¬ (k < 0 ∨ 64 < k)) : ArcB p d e k := by
  have hk2 : k.toNat ≤ 64 := by omega
  have m16 : (bV3 16).mx = 16 := by decide
  have hdd : Bnd .rat (.n 98) (dotQ d d) := rat_le (dotQ_b hd hd) (by rw [m16]; omega)
  have hee : Bnd .rat (.n 98) (dotQ e e) := rat_le (dotQ_b he he) (by rw [m16]; omega)
  have hu : Bnd .rat (.n 326) (arcU d e k) := rat_le (rootLo_b (div_b hdd hee) hk2) (by simp only [Bd.nb]; omega)
  have hf : Bnd tV3 (bV3 400) (arcF d e k) := v3_le (scaleV_b hu he) (by rw [m16]; simp only [Bd.mx]; omega)
  have m400 : (bV3 400).mx = 400 := by decide
  have hdf : Bnd .rat (.n 1300) (arcDF d e k) := rat_le (dotQ_b hd hf) (by rw [m16, m400]; omega)
  have hw : Bnd .rat (.n 4000) (arcW d e k) := rat_le (rootLo_b (div_b (sub_b hdd hdf) (add_b hdd hdd)) hk2) (by simp only [Bd.nb]; omega)
  have hm : Bnd .rat (.n 1600) (arcM d e k) := rat_le (div_b hdd (add_b hdd hdf)) (by omega)
  have hdf2 := addV_b hd hf
  have hc : Bnd tV3 (bV3 4000) (arcCen p d e k) := v3_le (addV_b hp (scaleV_b hm hdf2)) (by simp only [Bd.mx]; omega)
  have hpd : Bnd tV3 (bV3 4000) (addV p d) := v3_le (addV_b hp hd) (by rw [m16]; omega)
  have hpf : Bnd tV3 (bV3 4000) (addV p (arcF d e k)) := v3_le (addV_b hp hf) (by rw [m16, m400]; omega)
  refine ⟨hw, hf, hc, ⟨by show Int.natAbs 2 ≤ 6; decide, ⟨Nat.le_refl 6, fun v hv => ?_⟩, Nat.le_refl 3, fun v hv => ?_⟩⟩
  · simp only [List.mem_cons, List.not_mem_nil, or_false] at hv
    rcases hv with rfl | rfl | rfl | rfl | rfl | rfl <;> first | exact zero_bn _ | exact one_b _ (by omega)
  · simp only [List.mem_cons, List.not_mem_nil, or_false] at hv
    rcases hv with rfl | rfl | rfl
    · exact ⟨hpd, one_b _ (by omega)⟩
    · exact ⟨v3_le hp (by omega), hw⟩
    · exact ⟨hpf, one_b _ (by omega)⟩
theorem arcR_b {p d e : V3} {k : Int} (hp : Bnd tV3 (bV3 16) p) (hd : Bnd tV3 (bV3 16) d) (he : Bnd tV3 (bV3 16) e) :
    Bnd tCurve (bCurve 4000) (arcR p d e k).1 ∧ Bnd tV3 (bV3 4000) (arcR p d e k).2.1 ∧ Bnd (.pr .rat .rat) (.p (.n 2000000) (.n 2000000)) (arcR p d e k).2.2.1 ∧ (arcR p d e k).2.2.2.natAbs ≤ 16 := by
  have z : ∀ c : Int, c.natAbs ≤ 16 → Bnd tCurve (bCurve 4000) (zeroA c).1 ∧ Bnd tV3 (bV3 4000) (zeroA c).2.1 ∧ Bnd (.pr .rat .rat) (.p (.n 2000000) (.n 2000000)) (zeroA c).2.2.1 ∧ (zeroA c).2.2.2.natAbs ≤ 16 := fun c hc =>
    ⟨⟨by show Int.natAbs 0 ≤ 6; decide, ⟨by show 0 ≤ 6; omega, fun v hv => by simp [zeroA] at hv⟩, by show 0 ≤ 3; omega, fun v hv => by simp [zeroA] at hv⟩, ⟨zero_bn _, zero_bn _, zero_bn _⟩, ⟨zero_bn _, zero_bn _⟩, hc⟩
  by_cases h : k < 0 ∨ 64 < k
  · rw [← arc_1 h]; exact z 1 (by decide)
  · by_cases h2 : crossQ d e = (0, 0, 0)
    · rw [← arc_2 h h2]; exact z 9 (by decide)
    · by_cases h3 : sgnQ (arcU d e k) = 0 ∨ sgnQ (arcW d e k) = 0
      · rw [← arc_3 h h2 h3]; exact z 6 (by decide)
      · by_cases h4 : quoC (dotQ d d + arcDF d e k) ≠ 0
        · rw [← arc_4 h h2 h3 h4]; exact z 7 (by decide)
        · rw [← arc_5 h h2 h3 h4]
          have b := arc_b hp hd he h
          exact ⟨b.cv, b.c, reachV_b b.cv rfl b.c, by show Int.natAbs 0 ≤ 16; decide⟩
theorem zeroA_b : Bnd tCurve (bCurve 4000) ((0, [], []) : Curve) ∧ Bnd tV3 (bV3 4000) ((0, 0, 0) : V3) ∧ Bnd (.pr .rat .rat) (.p (.n 2000000) (.n 2000000)) ((0, 0) : Rat × Rat) :=
  ⟨⟨by show Int.natAbs 0 ≤ 6; decide, ⟨by show 0 ≤ 6; omega, fun v hv => by cases hv⟩, by show 0 ≤ 3; omega, fun v hv => by cases hv⟩, ⟨zero_bn _, zero_bn _, zero_bn _⟩, ⟨zero_bn _, zero_bn _⟩⟩
end Go.Proofs.YtcjgaaibflcdiaaGreat.Sx

namespace Go.Proofs.YtcjgaaibflcdiaaGreat.Sx
open Go Go.Proofs
set_option linter.unusedVariables false
set_option linter.unusedSimpArgs false
set_option maxRecDepth 20000
set_option maxHeartbeats 4000000
abbrev ablroot_i : FI := ⟨49, [.rat, .rat, (.int .i64)], [(.n 7000), (.n 7000), (.n 9223372036854775808)], fun z => (fun (x : Rat) (y : Rat) (k : Int) => [0 ≤ k, k ≤ 64]) z.1 z.2.1 z.2.2, fun b z => (fun (x : Rat) (y : Rat) (k : Int) => .c (.agg [.dt .rat (.n ((b0 b).nb + (b1 b).nb + 130)) (rootLo (x / y) k.toNat)])) z.1 z.2.1 z.2.2⟩
theorem ablroot_k : ablroot_i.OK Tryz.prog := mkF hmix 25 Tryz.func49 rfl rfl (by decide) [(54, .c rquo_c), (90, .c mRoot_c)] (fun _ => rfl) (fun _ => rfl) (fun _ _ => rfl) (fun (x : Rat) (y : Rat) (k : Int) b hx hp => agg_ok (rat_le (rootLo_b (b := .n ((b0 b).nb + (b1 b).nb)) (quo_bnd (Bnds.h3 hx).1 (Bnds.h3 hx).2.1) (by have := hp _ (List.mem_cons_of_mem _ List.mem_cons_self); omega)) (Nat.le_refl _))) (fun (x : Rat) (y : Rat) (k : Int) hx hp => by
 have hx2 : Int.natAbs k ≤ 9223372036854775808 := hx.2.2
 have hp0 : 0 ≤ k := hp _ (List.mem_cons_self)
 have hp1 : k ≤ 64 := hp _ (List.mem_cons_of_mem _ (List.mem_cons_self))
 exact ⟨.nil, kcast (by kernel_rfl) (I (by omega : 0 ≤ k) (I (by omega : k ≤ 64) ((Eq.refl (rootLo (x / y) k.toNat)))))⟩)
abbrev ablroot_c : Ctr Tryz.prog := FI.c ablroot_k
abbrev aaround_i : FI := ⟨59, [(.pr (.int .i64) (.pr (.sl .rat) (.sl (.pr (.pr .rat (.pr .rat .rat)) .rat)))), (.pr .rat (.pr .rat .rat))], [(.p (.n 6) (.p (.s 6 (.n 4000)) (.s 3 (.p (.p (.n 4000) (.p (.n 4000) (.n 4000))) (.n 4000))))), (.p (.n 4000) (.p (.n 4000) (.n 4000)))], fun z => (fun (c : Int × List Rat × List ((Rat × Rat × Rat) × Rat)) (m : Rat × Rat × Rat) => [c.2.2.length = 3, Bnd tCurve (bCurve 4000) c, Bnd tV3 (bV3 4000) m]) z.1 z.2, fun b z => (fun (c : Int × List Rat × List ((Rat × Rat × Rat) × Rat)) (m : Rat × Rat × Rat) => .c (.agg [.dt (.pr .rat .rat) (.p (.n 2000000) (.n 2000000)) (reachV c m)])) z.1 z.2⟩
theorem aaround_k : aaround_i.OK Tryz.prog := mkF hmix 92 Tryz.func59 rfl rfl (by decide) [(54, .c rquo_c), (103, .c orat_c), (104, .c bnums_c), (105, .c bsub_c), (106, .c bscale_c), (107, .c bmul_c), (108, .c badd_c), (109, .c rmin_c), (110, .c rmax_c)] (fun _ => rfl) (fun _ => rfl) (fun _ _ => rfl) (fun (c : Int × List Rat × List ((Rat × Rat × Rat) × Rat)) (m : Rat × Rat × Rat) b hx hp => agg_ok (reachV_b (hp _ (List.mem_cons_of_mem _ List.mem_cons_self)) (hp _ List.mem_cons_self) (hp _ (List.mem_cons_of_mem _ (List.mem_cons_of_mem _ List.mem_cons_self))))) (fun (c : Int × List Rat × List ((Rat × Rat × Rat) × Rat)) (m : Rat × Rat × Rat) hx hp => by
 have hp0 : c.2.2.length = 3 := hp _ (List.mem_cons_self)
 exact ⟨(fun (F : List Rat × List Rat × List Rat × List Rat) => (fun (x0 : List Rat) => (fun (x1 : List Rat) => (fun (x2 : List Rat) => .cond (.cond (.cond (.cond (.cond (.cond (.dead) (.nil)) (.dead)) (.dead)) (.dead)) (.dead)) (.dead)) (subL F.2.2.1 (scaleL m.2.2 F.2.2.2))) (subL F.2.1 (scaleL m.2.1 F.2.2.2))) (subL F.1 (scaleL m.1 F.2.2.2))) (numsV c.2.2), kcast (by kernel_rfl) (I (by omega : c.2.2.length = 3) ((fun (F : List Rat × List Rat × List Rat × List Rat) (hF : F = numsV c.2.2) => have hFl := (show F.1.length = 3 ∧ F.2.1.length = 3 ∧ F.2.2.1.length = 3 ∧ F.2.2.2.length = 3 from by rw [hF]; exact nums_len hp0); have hF1 := hFl.1; have hF2 := hFl.2.1; have hF3 := hFl.2.2.1; have hF4 := hFl.2.2.2; I (by rw [scaleL_len]; omega : F.1.length = (scaleL m.1 F.2.2.2).length) ((fun (x0 : List Rat) (hx_0 : x0 = subL F.1 (scaleL m.1 F.2.2.2)) => have hlx0 := (show x0.length = 3 from by rw [hx_0]; exact x_len hF1 hF4); I (by omega : x0.length = 3) (I (by omega : x0.length = 3) (I (by rw [scaleL_len]; omega : F.2.1.length = (scaleL m.2.1 F.2.2.2).length) ((fun (x1 : List Rat) (hx_1 : x1 = subL F.2.1 (scaleL m.2.1 F.2.2.2)) => have hlx1 := (show x1.length = 3 from by rw [hx_1]; exact x_len hF2 hF4); I (by omega : x1.length = 3) (I (by omega : x1.length = 3) (I (by first | rw [mulL_len, mulL_len] | (rw [addL_len (by rw [mulL_len, mulL_len]), mulL_len, mulL_len]) : (mulL x0 x0).length = (mulL x1 x1).length) (I (by rw [scaleL_len]; omega : F.2.2.1.length = (scaleL m.2.2 F.2.2.2).length) ((fun (x2 : List Rat) (hx_2 : x2 = subL F.2.2.1 (scaleL m.2.2 F.2.2.2)) => have hlx2 := (show x2.length = 3 from by rw [hx_2]; exact x_len hF3 hF4); I (by omega : x2.length = 3) (I (by omega : x2.length = 3) (I (by first | rw [mulL_len, mulL_len] | (rw [addL_len (by rw [mulL_len, mulL_len]), mulL_len, mulL_len]) : (addL (mulL x0 x0) (mulL x1 x1)).length = (mulL x2 x2).length) (I (by omega : F.2.2.2.length = 3) (I (by omega : F.2.2.2.length = 3) (have hl5 := (show (addL (addL (mulL x0 x0) (mulL x1 x1)) (mulL x2 x2)).length = 5 from by rw [addL_len (by rw [addL_len (by rw [mulL_len, mulL_len]), mulL_len, mulL_len]), addL_len (by rw [mulL_len, mulL_len]), mulL_len]); have hw5 := (mulL_len F.2.2.2 F.2.2.2); And.intro (fun (h1 : 0 < (addL (addL (mulL x0 x0) (mulL x1 x1)) (mulL x2 x2)).length) => I (by omega : 0 < (addL (addL (mulL x0 x0) (mulL x1 x1)) (mulL x2 x2)).length) (I (by omega : 0 < (mulL F.2.2.2 F.2.2.2).length) (And.intro (fun (h2 : 1 < (addL (addL (mulL x0 x0) (mulL x1 x1)) (mulL x2 x2)).length) => I (by omega : 1 < (addL (addL (mulL x0 x0) (mulL x1 x1)) (mulL x2 x2)).length) (I (by omega : 1 < (mulL F.2.2.2 F.2.2.2).length) (And.intro (fun (h3 : 2 < (addL (addL (mulL x0 x0) (mulL x1 x1)) (mulL x2 x2)).length) => I (by omega : 2 < (addL (addL (mulL x0 x0) (mulL x1 x1)) (mulL x2 x2)).length) (I (by omega : 2 < (mulL F.2.2.2 F.2.2.2).length) (And.intro (fun (h4 : 3 < (addL (addL (mulL x0 x0) (mulL x1 x1)) (mulL x2 x2)).length) => I (by omega : 3 < (addL (addL (mulL x0 x0) (mulL x1 x1)) (mulL x2 x2)).length) (I (by omega : 3 < (mulL F.2.2.2 F.2.2.2).length) (And.intro (fun (h5 : 4 < (addL (addL (mulL x0 x0) (mulL x1 x1)) (mulL x2 x2)).length) => I (by omega : 4 < (addL (addL (mulL x0 x0) (mulL x1 x1)) (mulL x2 x2)).length) (I (by omega : 4 < (mulL F.2.2.2 F.2.2.2).length) (And.intro (fun (h6 : 5 < (addL (addL (mulL x0 x0) (mulL x1 x1)) (mulL x2 x2)).length) => (by omega : False)) (fun (h7 : ¬ (5 < (addL (addL (mulL x0 x0) (mulL x1 x1)) (mulL x2 x2)).length)) => (by subst hx_2 hx_1 hx_0 hF; rfl : (minQ (minQ (minQ (minQ (minQ (((addL (addL (mulL x0 x0) (mulL x1 x1)) (mulL x2 x2)).getD 0 0) / ((mulL F.2.2.2 F.2.2.2).getD 0 0)) (((addL (addL (mulL x0 x0) (mulL x1 x1)) (mulL x2 x2)).getD 0 0) / ((mulL F.2.2.2 F.2.2.2).getD 0 0))) (((addL (addL (mulL x0 x0) (mulL x1 x1)) (mulL x2 x2)).getD 1 0) / ((mulL F.2.2.2 F.2.2.2).getD 1 0))) (((addL (addL (mulL x0 x0) (mulL x1 x1)) (mulL x2 x2)).getD 2 0) / ((mulL F.2.2.2 F.2.2.2).getD 2 0))) (((addL (addL (mulL x0 x0) (mulL x1 x1)) (mulL x2 x2)).getD 3 0) / ((mulL F.2.2.2 F.2.2.2).getD 3 0))) (((addL (addL (mulL x0 x0) (mulL x1 x1)) (mulL x2 x2)).getD 4 0) / ((mulL F.2.2.2 F.2.2.2).getD 4 0)), maxQ (maxQ (maxQ (maxQ (maxQ (((addL (addL (mulL x0 x0) (mulL x1 x1)) (mulL x2 x2)).getD 0 0) / ((mulL F.2.2.2 F.2.2.2).getD 0 0)) (((addL (addL (mulL x0 x0) (mulL x1 x1)) (mulL x2 x2)).getD 0 0) / ((mulL F.2.2.2 F.2.2.2).getD 0 0))) (((addL (addL (mulL x0 x0) (mulL x1 x1)) (mulL x2 x2)).getD 1 0) / ((mulL F.2.2.2 F.2.2.2).getD 1 0))) (((addL (addL (mulL x0 x0) (mulL x1 x1)) (mulL x2 x2)).getD 2 0) / ((mulL F.2.2.2 F.2.2.2).getD 2 0))) (((addL (addL (mulL x0 x0) (mulL x1 x1)) (mulL x2 x2)).getD 3 0) / ((mulL F.2.2.2 F.2.2.2).getD 3 0))) (((addL (addL (mulL x0 x0) (mulL x1 x1)) (mulL x2 x2)).getD 4 0) / ((mulL F.2.2.2 F.2.2.2).getD 4 0))) = reachV c m))))) (fun (h8 : ¬ (4 < (addL (addL (mulL x0 x0) (mulL x1 x1)) (mulL x2 x2)).length)) => (by omega : False))))) (fun (h9 : ¬ (3 < (addL (addL (mulL x0 x0) (mulL x1 x1)) (mulL x2 x2)).length)) => (by omega : False))))) (fun (h10 : ¬ (2 < (addL (addL (mulL x0 x0) (mulL x1 x1)) (mulL x2 x2)).length)) => (by omega : False))))) (fun (h11 : ¬ (1 < (addL (addL (mulL x0 x0) (mulL x1 x1)) (mulL x2 x2)).length)) => (by omega : False))))) (fun (h12 : ¬ (0 < (addL (addL (mulL x0 x0) (mulL x1 x1)) (mulL x2 x2)).length)) => (by omega : False)))))))) (subL F.2.2.1 (scaleL m.2.2 F.2.2.2)) rfl))))) (subL F.2.1 (scaleL m.2.1 F.2.2.2)) rfl)))) (subL F.1 (scaleL m.1 F.2.2.2)) rfl)) (numsV c.2.2) rfl))⟩)
abbrev aaround_c : Ctr Tryz.prog := FI.c aaround_k
end Go.Proofs.YtcjgaaibflcdiaaGreat.Sx

namespace Go.Proofs.YtcjgaaibflcdiaaGreat.Sx
open Go Go.Proofs
set_option linter.unusedVariables false
set_option linter.unusedSimpArgs false
set_option maxRecDepth 20000
set_option maxHeartbeats 4000000
abbrev azero_i : FI := ⟨45, [(.int .i64)], [(.n 16)], fun _ => [], fun b z => (fun (e : Int) => .tup [.agg [.dt tCurve (bCurve 4000) (0, [], [])], .agg [.dt tV3 (bV3 4000) (0, 0, 0)], .agg [.dt (.pr .rat .rat) (.p (.n 2000000) (.n 2000000)) (0, 0)], .one (.dt (.int .i64) (b0 b) e)]) z⟩
theorem azero_k : azero_i.OK Tryz.prog := mkF hmix 10 Tryz.func45 rfl rfl (by decide) [] (fun _ => rfl) (fun _ => rfl) (fun _ _ => rfl) (fun (e : Int) b hx hp => tup_cons (agg_ok zeroA_b.1) (tup_cons (agg_ok zeroA_b.2.1) (tup_cons (agg_ok zeroA_b.2.2) (tup_cons (one_ok (Bnds.h1 hx) rfl) tup_nil)))) (fun (e : Int) hx hp => by
 exact ⟨.nil, kcast (by kernel_rfl) (And.intro (rfl : (0, [], []) = ((0, [], []) : Curve)) (And.intro (rfl : (0, 0, 0) = ((0, 0, 0) : V3)) (And.intro (rfl : (0, 0) = ((0, 0) : Rat × Rat)) (Eq.refl e))))⟩)
abbrev azero_c : Ctr Tryz.prog := FI.c azero_k
abbrev aArc_i : FI := ⟨13, [(.pr .rat (.pr .rat .rat)), (.pr .rat (.pr .rat .rat)), (.pr .rat (.pr .rat .rat)), (.int .i64)], [(.p (.n 16) (.p (.n 16) (.n 16))), (.p (.n 16) (.p (.n 16) (.n 16))), (.p (.n 16) (.p (.n 16) (.n 16))), (.n 9223372036854775808)], fun z => (fun (p : Rat × Rat × Rat) (d : Rat × Rat × Rat) (e : Rat × Rat × Rat) (k : Int) => [Bnd tV3 (bV3 16) p, Bnd tV3 (bV3 16) d, Bnd tV3 (bV3 16) e]) z.1 z.2.1 z.2.2.1 z.2.2.2, fun b z => (fun (p : Rat × Rat × Rat) (d : Rat × Rat × Rat) (e : Rat × Rat × Rat) (k : Int) => .tup [.agg [.dt tCurve (bCurve 4000) (arcR p d e k).1], .agg [.dt tV3 (bV3 4000) (arcR p d e k).2.1], .agg [.dt (.pr .rat .rat) (.p (.n 2000000) (.n 2000000)) (arcR p d e k).2.2.1], .one (.dt (.int .i64) (.n 16) (arcR p d e k).2.2.2)]) z.1 z.2.1 z.2.2.1 z.2.2.2⟩
theorem aArc_k : aArc_i.OK Tryz.prog := mkF hmix 136 Tryz.func13 rfl rfl (by decide) [(45, .c azero_c), (46, .c vzerop_c), (47, .c vcrossp_c), (48, .c vdotp_c), (49, .c ablroot_c), (50, .c vscalep_c), (51, .c rsub_c), (52, .c raddp_c), (53, .c rsign_c), (54, .c rquo_c), (55, .c vaddp_c), (56, .c rint_c), (57, .c ocurve_c), (58, .c opoint_c), (59, .c aaround_c)] (fun _ => rfl) (fun _ => rfl) (fun _ _ => rfl) (fun (p : Rat × Rat × Rat) (d : Rat × Rat × Rat) (e : Rat × Rat × Rat) (k : Int) b hx hp => (by have b := arcR_b (k := k) (hp _ List.mem_cons_self) (hp _ (List.mem_cons_of_mem _ List.mem_cons_self)) (hp _ (List.mem_cons_of_mem _ (List.mem_cons_of_mem _ List.mem_cons_self))); exact tup_cons (agg_ok b.1) (tup_cons (agg_ok b.2.1) (tup_cons (agg_ok b.2.2.1) (tup_cons (one_ok b.2.2.2 rfl) tup_nil))))) (fun (p : Rat × Rat × Rat) (d : Rat × Rat × Rat) (e : Rat × Rat × Rat) (k : Int) hx hp => by
 have hx3 : Int.natAbs k ≤ 9223372036854775808 := hx.2.2.2
 have hp0 : Bnd tV3 (bV3 16) p := hp _ (List.mem_cons_self)
 have hp1 : Bnd tV3 (bV3 16) d := hp _ (List.mem_cons_of_mem _ (List.mem_cons_self))
 have hp2 : Bnd tV3 (bV3 16) e := hp _ (List.mem_cons_of_mem _ (List.mem_cons_of_mem _ (List.mem_cons_self)))
 exact ⟨.cond (.nil) (.cond (.nil) (.cond (.nil) ((fun (dd : Rat) => (fun (u : Rat) => (fun (f : Rat × Rat × Rat) => (fun (df : Rat) => (fun (w : Rat) => .cond (.nil) (.cond (.nil) (.cond (.nil) (.h 18 6 (.mk (.im .rat (.n 4))) (.h 19 13 (.mk (.im (.pr (.pr .rat (.pr .rat .rat)) .rat) (.p (.p (.n 4000) (.p (.n 4000) (.n 4000))) (.n 4000)))) (.nil)))))) (rootLo ((dd - df) / (dd + dd)) k.toNat)) (dotQ d f)) (scaleV u e)) (rootLo (dd / (dotQ e e)) k.toNat)) (dotQ d d)))), kcast (by kernel_rfl) (And.intro (fun (h1 : k < 0) => And.intro (by  exact congrArg (fun z : ArcR => z.1) (arc_1 (.inl h1)) : ((0, [], []) : Curve) = (arcR p d e k).1) (And.intro (by  exact congrArg (fun z : ArcR => z.2.1) (arc_1 (.inl h1)) : ((0, 0, 0) : V3) = (arcR p d e k).2.1) (And.intro (by  exact congrArg (fun z : ArcR => z.2.2.1) (arc_1 (.inl h1)) : ((0, 0) : Rat × Rat) = (arcR p d e k).2.2.1) (by  exact congrArg (fun z : ArcR => z.2.2.2) (arc_1 (.inl h1)) : 1 = (arcR p d e k).2.2.2)))) (fun (h2 : ¬ (k < 0)) => And.intro (fun (h3 : 64 < k) => And.intro (by  exact congrArg (fun z : ArcR => z.1) (arc_1 (.inr h3)) : ((0, [], []) : Curve) = (arcR p d e k).1) (And.intro (by  exact congrArg (fun z : ArcR => z.2.1) (arc_1 (.inr h3)) : ((0, 0, 0) : V3) = (arcR p d e k).2.1) (And.intro (by  exact congrArg (fun z : ArcR => z.2.2.1) (arc_1 (.inr h3)) : ((0, 0) : Rat × Rat) = (arcR p d e k).2.2.1) (by  exact congrArg (fun z : ArcR => z.2.2.2) (arc_1 (.inr h3)) : 1 = (arcR p d e k).2.2.2)))) (fun (h4 : ¬ (64 < k)) => And.intro (fun (h5 : decide ((crossQ d e) = (0, 0, 0)) = true) => And.intro (by  exact congrArg (fun z : ArcR => z.1) (arc_2 (by omega) (yd h5)) : ((0, [], []) : Curve) = (arcR p d e k).1) (And.intro (by  exact congrArg (fun z : ArcR => z.2.1) (arc_2 (by omega) (yd h5)) : ((0, 0, 0) : V3) = (arcR p d e k).2.1) (And.intro (by  exact congrArg (fun z : ArcR => z.2.2.1) (arc_2 (by omega) (yd h5)) : ((0, 0) : Rat × Rat) = (arcR p d e k).2.2.1) (by  exact congrArg (fun z : ArcR => z.2.2.2) (arc_2 (by omega) (yd h5)) : 9 = (arcR p d e k).2.2.2)))) (fun (h6 : ¬ (decide ((crossQ d e) = (0, 0, 0)) = true)) => (fun (dd : Rat) (hdd : dd = dotQ d d) => I (by omega : 0 ≤ k) (I (by omega : k ≤ 64) ((fun (u : Rat) (hu : u = rootLo (dd / (dotQ e e)) k.toNat) => (fun (f : Rat × Rat × Rat) (hf : f = scaleV u e) => (fun (df : Rat) (hdf : df = dotQ d f) => I (by omega : 0 ≤ k) (I (by omega : k ≤ 64) ((fun (w : Rat) (hw0 : w = rootLo ((dd - df) / (dd + dd)) k.toNat) => And.intro (fun (h7 : sgnQ u = 0) => And.intro (by subst hw0 hdf hf hu hdd; exact congrArg (fun z : ArcR => z.1) (arc_3 (by omega) (yd' h6) (.inl h7)) : ((0, [], []) : Curve) = (arcR p d e k).1) (And.intro (by subst hw0 hdf hf hu hdd; exact congrArg (fun z : ArcR => z.2.1) (arc_3 (by omega) (yd' h6) (.inl h7)) : ((0, 0, 0) : V3) = (arcR p d e k).2.1) (And.intro (by subst hw0 hdf hf hu hdd; exact congrArg (fun z : ArcR => z.2.2.1) (arc_3 (by omega) (yd' h6) (.inl h7)) : ((0, 0) : Rat × Rat) = (arcR p d e k).2.2.1) (by subst hw0 hdf hf hu hdd; exact congrArg (fun z : ArcR => z.2.2.2) (arc_3 (by omega) (yd' h6) (.inl h7)) : 6 = (arcR p d e k).2.2.2)))) (fun (h8 : ¬ (sgnQ u = 0)) => And.intro (fun (h9 : sgnQ w = 0) => And.intro (by subst hw0 hdf hf hu hdd; exact congrArg (fun z : ArcR => z.1) (arc_3 (by omega) (yd' h6) (.inr h9)) : ((0, [], []) : Curve) = (arcR p d e k).1) (And.intro (by subst hw0 hdf hf hu hdd; exact congrArg (fun z : ArcR => z.2.1) (arc_3 (by omega) (yd' h6) (.inr h9)) : ((0, 0, 0) : V3) = (arcR p d e k).2.1) (And.intro (by subst hw0 hdf hf hu hdd; exact congrArg (fun z : ArcR => z.2.2.1) (arc_3 (by omega) (yd' h6) (.inr h9)) : ((0, 0) : Rat × Rat) = (arcR p d e k).2.2.1) (by subst hw0 hdf hf hu hdd; exact congrArg (fun z : ArcR => z.2.2.2) (arc_3 (by omega) (yd' h6) (.inr h9)) : 6 = (arcR p d e k).2.2.2)))) (fun (h10 : ¬ (sgnQ w = 0)) => And.intro (fun (h11 : quoC (dd + df) ≠ 0) => And.intro (by subst hw0 hdf hf hu hdd; exact congrArg (fun z : ArcR => z.1) (arc_4 (by omega) (yd' h6) (not_or.2 ⟨h8, h10⟩) h11) : ((0, [], []) : Curve) = (arcR p d e k).1) (And.intro (by subst hw0 hdf hf hu hdd; exact congrArg (fun z : ArcR => z.2.1) (arc_4 (by omega) (yd' h6) (not_or.2 ⟨h8, h10⟩) h11) : ((0, 0, 0) : V3) = (arcR p d e k).2.1) (And.intro (by subst hw0 hdf hf hu hdd; exact congrArg (fun z : ArcR => z.2.2.1) (arc_4 (by omega) (yd' h6) (not_or.2 ⟨h8, h10⟩) h11) : ((0, 0) : Rat × Rat) = (arcR p d e k).2.2.1) (by subst hw0 hdf hf hu hdd; exact congrArg (fun z : ArcR => z.2.2.2) (arc_4 (by omega) (yd' h6) (not_or.2 ⟨h8, h10⟩) h11) : 7 = (arcR p d e k).2.2.2)))) (fun (h12 : ¬ (quoC (dd + df) ≠ 0)) => I (rfl : (2, [0, 0, 0, ((1 : Int) : Rat), ((1 : Int) : Rat), ((1 : Int) : Rat)], [(addV p d, ((1 : Int) : Rat)), (p, w), (addV p f, ((1 : Int) : Rat))]).2.2.length = 3) (I (by subst hw0 hdf hf hu hdd; exact (arc_b hp0 hp1 hp2 (by omega)).cv : Bnd tCurve (bCurve 4000) (2, [0, 0, 0, ((1 : Int) : Rat), ((1 : Int) : Rat), ((1 : Int) : Rat)], [(addV p d, ((1 : Int) : Rat)), (p, w), (addV p f, ((1 : Int) : Rat))])) (I (by subst hw0 hdf hf hu hdd; exact (arc_b hp0 hp1 hp2 (by omega)).c : Bnd tV3 (bV3 4000) (addV p (scaleV (dd / (dd + df)) (addV d f)))) (And.intro (by subst hw0 hdf hf hu hdd; exact congrArg (fun z : ArcR => z.1) (arc_5 (by omega) (yd' h6) (not_or.2 ⟨h8, h10⟩) h12) : (2, [0, 0, 0, ((1 : Int) : Rat), ((1 : Int) : Rat), ((1 : Int) : Rat)], [(addV p d, ((1 : Int) : Rat)), (p, w), (addV p f, ((1 : Int) : Rat))]) = (arcR p d e k).1) (And.intro (by subst hw0 hdf hf hu hdd; exact congrArg (fun z : ArcR => z.2.1) (arc_5 (by omega) (yd' h6) (not_or.2 ⟨h8, h10⟩) h12) : addV p (scaleV (dd / (dd + df)) (addV d f)) = (arcR p d e k).2.1) (And.intro (by subst hw0 hdf hf hu hdd; exact congrArg (fun z : ArcR => z.2.2.1) (arc_5 (by omega) (yd' h6) (not_or.2 ⟨h8, h10⟩) h12) : reachV (2, [0, 0, 0, ((1 : Int) : Rat), ((1 : Int) : Rat), ((1 : Int) : Rat)], [(addV p d, ((1 : Int) : Rat)), (p, w), (addV p f, ((1 : Int) : Rat))]) (addV p (scaleV (dd / (dd + df)) (addV d f))) = (arcR p d e k).2.2.1) (by subst hw0 hdf hf hu hdd; exact congrArg (fun z : ArcR => z.2.2.2) (arc_5 (by omega) (yd' h6) (not_or.2 ⟨h8, h10⟩) h12) : 0 = (arcR p d e k).2.2.2)))))))))) (rootLo ((dd - df) / (dd + dd)) k.toNat) rfl))) (dotQ d f) rfl) (scaleV u e) rfl) (rootLo (dd / (dotQ e e)) k.toNat) rfl))) (dotQ d d) rfl))))⟩)
abbrev aArc_c : Ctr Tryz.prog := FI.c aArc_k
end Go.Proofs.YtcjgaaibflcdiaaGreat.Sx

namespace Go.Proofs.YtcjgaaibflcdiaaGreat.Sx
open Go
set_option linter.unusedVariables false
structure EqI {α : Type} (l m : List α) (i : Nat) : Prop where
  hl : l.length = m.length
  hi : i ≤ l.length
  ht : l.take i = m.take i
theorem EqI.start {α : Type} {l m : List α} (h : l.length = m.length) : EqI l m 0 := ⟨h, by omega, by simp⟩
theorem EqI.step {α : Type} {l m : List α} {i : Nat} (h : EqI l m i) (d : α) (hi : i < l.length) (he : l.getD i d = m.getD i d) : EqI l m (i + 1) :=
  ⟨h.hl, by omega, by have := h.hl; rw [take_snoc (d := d) hi, take_snoc (d := d) (by omega), h.ht, he]⟩
theorem EqI.fin {α : Type} {l m : List α} {i : Nat} (h : EqI l m i) (hi : ¬ i < l.length) : l = m := by
  have h1 := h.hl
  have := h.ht
  rwa [List.take_of_length_le (by omega), List.take_of_length_le (by omega)] at this
def smallB (x : Rat) : Bool := Nat.blt x.num.natAbs 65536 && Nat.ble x.den 65536
theorem smallB_b {x : Rat} (h : smallB x = true) : Bnd .rat (.n 16) x := by
  unfold smallB at h
  simp only [Bool.and_eq_true] at h
  exact ⟨by have := Nat.le_of_ble_eq_true h.1; exact this, Nat.le_of_ble_eq_true h.2⟩
theorem small3 {x : V3} (h : (smallB x.1 && smallB x.2.1 && smallB x.2.2) = true) : Bnd tV3 (bV3 16) x := by
  simp only [Bool.and_eq_true] at h
  exact ⟨smallB_b h.1.1, smallB_b h.1.2, smallB_b h.2⟩
end Go.Proofs.YtcjgaaibflcdiaaGreat.Sx

namespace Go.Proofs.YtcjgaaibflcdiaaGreat.Sx
open Go Go.Proofs
set_option linter.unusedVariables false
set_option linter.unusedSimpArgs false
set_option maxRecDepth 20000
set_option maxHeartbeats 4000000
end Go.Proofs.YtcjgaaibflcdiaaGreat.Sx

namespace Go.Proofs.YtcjgaaibflcdiaaGreat.Sx
open Go Go.Proofs
set_option linter.unusedVariables false
set_option linter.unusedSimpArgs false
set_option maxRecDepth 20000
set_option maxHeartbeats 4000000
abbrev lsane_i : FI := ⟨8, [], [], fun _ => [], fun b z => .c (.one (.vl (.bool true)))⟩
theorem lsane_k : lsane_i.OK Tryz.prog := mkF hmix 50 Tryz.func8 rfl rfl (by decide) [(13, .c aArc_c), (16, .c vsamer_c), (17, .c ysame_c), (25, .c ycmp_c), (30, .c dat3_c), (31, .c yint_c), (33, .c yfrac_c)] (fun _ => rfl) (fun _ => rfl) (fun _ _ => rfl) (fun  b hx hp => vl_ok rfl) (fun  hx hp => by
 exact ⟨.cond (.cond (.cond (.cond (.cond (.nil) (.dead)) (.dead)) (.dead)) (.dead)) (.dead), kcast (by kernel_rfl) (I (by exact small3 (by decide +kernel) : Bnd tV3 (bV3 16) (0, 0, 0)) (I (by exact small3 (by decide +kernel) : Bnd tV3 (bV3 16) (((1 : Int) : Rat), ((0 : Int) : Rat), ((0 : Int) : Rat))) (I (by exact small3 (by decide +kernel) : Bnd tV3 (bV3 16) (((0 : Int) : Rat), ((1 : Int) : Rat), ((0 : Int) : Rat))) (have hE := (show (arcR (0, 0, 0) (((1 : Int) : Rat), ((0 : Int) : Rat), ((0 : Int) : Rat)) (((0 : Int) : Rat), ((1 : Int) : Rat), ((0 : Int) : Rat)) 1).2.2.2 = 0 from by decide +kernel); have hL := (show (arcR (0, 0, 0) (((1 : Int) : Rat), ((0 : Int) : Rat), ((0 : Int) : Rat)) (((0 : Int) : Rat), ((1 : Int) : Rat), ((0 : Int) : Rat)) 1).1.2.2.length = 3 from by decide +kernel); have hW := (show ((arcR (0, 0, 0) (((1 : Int) : Rat), ((0 : Int) : Rat), ((0 : Int) : Rat)) (((0 : Int) : Rat), ((1 : Int) : Rat), ((0 : Int) : Rat)) 1).1.2.2.getD 1 ((0, 0, 0), 0)).2 = ((1 : Int) : Rat) / ((2 : Int) : Rat) from by decide +kernel); have hM := (show (arcR (0, 0, 0) (((1 : Int) : Rat), ((0 : Int) : Rat), ((0 : Int) : Rat)) (((0 : Int) : Rat), ((1 : Int) : Rat), ((0 : Int) : Rat)) 1).2.1 = (((1 : Int) : Rat), ((1 : Int) : Rat), ((0 : Int) : Rat)) from by decide +kernel); have hS1 := (show cmpQ (arcR (0, 0, 0) (((1 : Int) : Rat), ((0 : Int) : Rat), ((0 : Int) : Rat)) (((0 : Int) : Rat), ((1 : Int) : Rat), ((0 : Int) : Rat)) 1).2.2.1.1 ((1 : Int) : Rat) ≤ 0 from by decide +kernel); have hS2 := (show cmpQ ((1 : Int) : Rat) (arcR (0, 0, 0) (((1 : Int) : Rat), ((0 : Int) : Rat), ((0 : Int) : Rat)) (((0 : Int) : Rat), ((1 : Int) : Rat), ((0 : Int) : Rat)) 1).2.2.1.2 ≤ 0 from by decide +kernel); And.intro (fun (h1 : (arcR (0, 0, 0) (((1 : Int) : Rat), ((0 : Int) : Rat), ((0 : Int) : Rat)) (((0 : Int) : Rat), ((1 : Int) : Rat), ((0 : Int) : Rat)) 1).2.2.2 = 0) => And.intro (fun (h2 : ((((arcR (0, 0, 0) (((1 : Int) : Rat), ((0 : Int) : Rat), ((0 : Int) : Rat)) (((0 : Int) : Rat), ((1 : Int) : Rat), ((0 : Int) : Rat)) 1).1).2).2).length = 3) => I (by omega : 1 < ((((arcR (0, 0, 0) (((1 : Int) : Rat), ((0 : Int) : Rat), ((0 : Int) : Rat)) (((0 : Int) : Rat), ((1 : Int) : Rat), ((0 : Int) : Rat)) 1).1).2).2).length) (And.intro (fun (h3 : decide (((((((arcR (0, 0, 0) (((1 : Int) : Rat), ((0 : Int) : Rat), ((0 : Int) : Rat)) (((0 : Int) : Rat), ((1 : Int) : Rat), ((0 : Int) : Rat)) 1).1).2).2).getD 1 ((0, (0, 0)), 0)).2) = (((1 : Int) : Rat) / ((2 : Int) : Rat))) = true) => And.intro (fun (h4 : decide (((arcR (0, 0, 0) (((1 : Int) : Rat), ((0 : Int) : Rat), ((0 : Int) : Rat)) (((0 : Int) : Rat), ((1 : Int) : Rat), ((0 : Int) : Rat)) 1).2.1) = (((1 : Int) : Rat), ((1 : Int) : Rat), ((0 : Int) : Rat))) = true) => And.intro (fun (h5 : cmpQ (((arcR (0, 0, 0) (((1 : Int) : Rat), ((0 : Int) : Rat), ((0 : Int) : Rat)) (((0 : Int) : Rat), ((1 : Int) : Rat), ((0 : Int) : Rat)) 1).2.2.1).1) ((1 : Int) : Rat) ≤ 0) => (hS2 : cmpQ ((1 : Int) : Rat) (((arcR (0, 0, 0) (((1 : Int) : Rat), ((0 : Int) : Rat), ((0 : Int) : Rat)) (((0 : Int) : Rat), ((1 : Int) : Rat), ((0 : Int) : Rat)) 1).2.2.1).2) ≤ 0)) (fun (h6 : ¬ (cmpQ (((arcR (0, 0, 0) (((1 : Int) : Rat), ((0 : Int) : Rat), ((0 : Int) : Rat)) (((0 : Int) : Rat), ((1 : Int) : Rat), ((0 : Int) : Rat)) 1).2.2.1).1) ((1 : Int) : Rat) ≤ 0)) => (h6 hS1 : False))) (fun (h7 : ¬ (decide (((arcR (0, 0, 0) (((1 : Int) : Rat), ((0 : Int) : Rat), ((0 : Int) : Rat)) (((0 : Int) : Rat), ((1 : Int) : Rat), ((0 : Int) : Rat)) 1).2.1) = (((1 : Int) : Rat), ((1 : Int) : Rat), ((0 : Int) : Rat))) = true)) => (h7 (decide_eq_true hM) : False))) (fun (h8 : ¬ (decide (((((((arcR (0, 0, 0) (((1 : Int) : Rat), ((0 : Int) : Rat), ((0 : Int) : Rat)) (((0 : Int) : Rat), ((1 : Int) : Rat), ((0 : Int) : Rat)) 1).1).2).2).getD 1 ((0, (0, 0)), 0)).2) = (((1 : Int) : Rat) / ((2 : Int) : Rat))) = true)) => (h8 (decide_eq_true hW) : False)))) (fun (h9 : ¬ (((((arcR (0, 0, 0) (((1 : Int) : Rat), ((0 : Int) : Rat), ((0 : Int) : Rat)) (((0 : Int) : Rat), ((1 : Int) : Rat), ((0 : Int) : Rat)) 1).1).2).2).length = 3)) => (h9 hL : False))) (fun (h10 : ¬ ((arcR (0, 0, 0) (((1 : Int) : Rat), ((0 : Int) : Rat), ((0 : Int) : Rat)) (((0 : Int) : Rat), ((1 : Int) : Rat), ((0 : Int) : Rat)) 1).2.2.2 = 0)) => (h10 hE : False))))))⟩)
abbrev lsane_c : Ctr Tryz.prog := FI.c lsane_k
end Go.Proofs.YtcjgaaibflcdiaaGreat.Sx

namespace Go.Proofs.YtcjgaaibflcdiaaGreat.Sx
open Go Go.Proofs
set_option linter.unusedVariables false
set_option linter.unusedSimpArgs false
set_option maxRecDepth 20000
set_option maxHeartbeats 4000000
end Go.Proofs.YtcjgaaibflcdiaaGreat.Sx

namespace Go.Proofs.YtcjgaaibflcdiaaGreat
open Go Go.Proofs Go.ChangeShapes Go.WideShapes Go.ChangeAt Go.RowKit
theorem own_k : ownKnob Tryz.prog.godebug = none := by kernel_rfl
theorem laid_k : laidOutB Tryz.prog = true := by kernel_rfl
theorem cells_3 : Tryz.prog.cellsOf 3 = 1 := by kernel_rfl
theorem csats_ints {H : Sx.Heap} : ∀ (l : List Int) (vs : List Value), (∀ i, i < l.length → vs[i]? = some (.int .i64 (l.getD i 0))) → Sx.CSats H (l.flatMap (Sx.cellsC (.int .i64))) (vs.take (l.flatMap (Sx.cellsC (.int .i64))).length)
  | [], vs, _ => by simp [Sx.CSats]
  | z :: l, [], h => by have := h 0 (by simp); simp at this
  | z :: l, v :: vs, h => by
    have h0 := h 0 (by simp)
    have h1 : v = .int .i64 z := by simpa using h0
    have ih := csats_ints (H := H) l vs fun i hi => by have := h (i + 1) (by simp; omega); simpa using this
    show Sx.CSats H (.val (.int .i64 z) :: l.flatMap (Sx.cellsC (.int .i64))) ((v :: vs).take ((l.flatMap (Sx.cellsC (.int .i64))).length + 1))
    rw [List.take_succ_cons]
    exact ⟨⟨h1, rfl⟩, ih⟩
theorem run_true {f : FuncId} {l : List Int} {k : Int} (hs : Sx.Sig Tryz.prog f (Sx.argsE [.sl (.int .i64), .int .i64] (l, k)) (Sx.WV.c (.one (.vl (.bool true)))).exp) {W : World} {v0 : Value} {H : Sx.Heap} (hon : Sx.Heap.On H W)
    (h0 : (Sx.flP (l.flatMap (Sx.cellsC (.int .i64))) l.length).p H v0) : Calls Tryz.prog f #[v0, .int .i64 k] W fun e W' => e = .returned (.bool true) ∧ Below W.heap.size W W' := by
  have h := hs.2 [v0, .int .i64 k] W H (fun _ => none) ⟨h0, ⟨rfl, rfl⟩, trivial⟩ (fun p hp => by cases hp) (fun p hp => by cases hp) hon
  refine h.mono fun e W' hw => ?_
  obtain ⟨v, H', β', rfl, hst, hv, _⟩ := hw
  have hv2 : v = .bool true := hv.1
  refine ⟨by rw [hv2], ⟨hst.os, hst.tape, hst.output, hst.size, fun k hk => hst.keep k hk (fun q hq => by simp [Sx.kwOf] at hq)⟩⟩
theorem wf_abs {n : Int} (h : (Lit.int .i64 n).wf = true) : n.natAbs ≤ 9223372036854775808 := by
  simp [Lit.wf, IntKind.min, IntKind.max, IntKind.signed, IntKind.bits] at h
  omega
theorem read_ints {H : Type} {enc : TypeId × Value → H} {W : World} {a0 : Option Addr} {len cap fuel : Nat} {x : DataW H × List MemPlace} (hf : DataW.trod enc Tryz.prog W 0 (fun _ => true) true fuel 22 [.slice a0 len cap] = some x) :
    ∃ (l : List Int) (Hh : Sx.Heap), Sx.Heap.On Hh W ∧ (Sx.flP (l.flatMap (Sx.cellsC (.int .i64))) l.length).p Hh (.slice a0 len cap) ∧ l.length ≤ 9223372036854775807 ∧ ∀ n ∈ l, n.natAbs ≤ 9223372036854775808 := by
  rcases open_ints Tryz.underlying22 Tryz.underlying3 cells_3 hf with ⟨hcs, hx⟩ | ⟨a, len', cap', zs, hcs, _, hl, hm, hz, hx, hcell, hwz⟩
  · simp at hcs
    obtain ⟨rfl, rfl, rfl⟩ := hcs
    exact ⟨[], fun _ => none, (fun b cs h => by cases h), ⟨none, 0, rfl, Nat.le_refl 0, .inl rfl⟩, by simp, by simp⟩
  · simp at hcs
    obtain ⟨rfl, rfl, rfl⟩ := hcs
    simp only [if_true] at hz
    have hb : ∀ n ∈ zs.take len, n.natAbs ≤ 9223372036854775808 := fun n hn => wf_abs (hwz n (List.mem_of_mem_take hn))
    have hm2 : cap ≤ 9223372036854775807 := hm
    have hll : (zs.take len).length = len := by rw [List.length_take]; omega
    by_cases hlen : len = 0
    · subst hlen
      exact ⟨[], fun _ => none, (fun b cs h => by cases h), ⟨some a, cap, rfl, by omega, .inl rfl⟩, by simp, by simp⟩
    · have c0 := hcell 0 (by omega)
      obtain ⟨b, off, sp⟩ := a
      have ⟨arr, T, fz, hh, hsp⟩ : ∃ arr T fz, W.heap[b]? = some (.cells arr T fz) ∧ sp = none := by
        simp only [Addr.add, if_true, World.cell?] at c0
        split at c0
        · rename_i c T fz hh
          refine ⟨c, T, fz, hh, ?_⟩
          cases sp with
          | none => rfl
          | some s => simp at c0
        · cases c0
      subst hsp
      refine ⟨zs.take len, fun q => if q = b then some arr else none, fun q cs h => ?_, ⟨some ⟨b, off, none⟩, cap, by rw [hll], by omega, .inr ⟨b, off, arr, rfl, by simp, ?_⟩⟩, by omega, hb⟩
      · simp only at h
        split at h
        · rename_i e; subst e; cases h; exact ⟨T, fz, hh⟩
        · cases h
      · refine csats_ints _ _ fun i hi => ?_
        rw [hll] at hi
        have ci := hcell i (by omega)
        have e1 : W.cell? (Addr.add ⟨b, off, none⟩ i) = arr[off + i]? := by
          by_cases e : i = 0
          · subst e; simp [Addr.add, World.cell?, hh]
          · simp [Addr.add, World.cell?, hh, e]
        rw [e1] at ci
        rw [List.getElem?_drop, Array.getElem?_toList, ci]
        congr 2
        simp [List.getD_eq_getElem?_getD, hi]
end Go.Proofs.YtcjgaaibflcdiaaGreat

namespace Go.Proofs.YtcjgaaibflcdiaaGreat.Sx
open Go
set_option linter.unusedVariables false
abbrev rgR (a b : Int) : Rat := ((a * a + b * b : Int) : Rat)
abbrev rgW (a b : Int) (n : Nat) : Rat := ((8 * (a * a + b * b) : Int) : Rat) * (((1 : Int) : Rat) / (((2 ^ n : Nat) : Int) : Rat))
def RightE (r : (Rat × Rat) × Int) (a b : Int) (n : Nat) : Prop := r.2 = 0 ∧ cmpQ r.1.1 (rgR a b) ≤ 0 ∧ cmpQ (rgR a b) r.1.2 ≤ 0 ∧ cmpQ (r.1.2 - r.1.1) (rgW a b n) ≤ 0
instance (r : (Rat × Rat) × Int) (a b : Int) (n : Nat) : Decidable (RightE r a b n) := by unfold RightE; infer_instance
end Go.Proofs.YtcjgaaibflcdiaaGreat.Sx

namespace Go.Proofs.YtcjgaaibflcdiaaGreat.Sx
open Go Go.Proofs
set_option linter.unusedVariables false
set_option linter.unusedSimpArgs false
set_option maxRecDepth 20000
set_option maxHeartbeats 4000000
end Go.Proofs.YtcjgaaibflcdiaaGreat.Sx
