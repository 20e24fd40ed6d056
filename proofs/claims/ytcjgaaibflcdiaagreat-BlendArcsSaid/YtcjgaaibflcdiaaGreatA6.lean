/-
Own laws and walks for the claim, part 6: WSp2, WSp3, WTl, WRt1, WCl, WAr1, WAr2, WEl, WEq1, WLw1, WLw2. No condition.
-/
import Derived.Test.YtcjgaaibflcdiaaGreatA5

namespace Go.Proofs.YtcjgaaibflcdiaaGreat.Sx
open Go Go.Proofs
set_option linter.unusedVariables false
set_option linter.unusedSimpArgs false
set_option maxRecDepth 20000
set_option maxHeartbeats 4000000
abbrev rdenP_R (b : List Bd) (x : Bool × Nat × Nat) : WV := .c (.one (.dt .mag (.n ((b0 b).mx)) (x.2.2)))
theorem rdenP_ok (b : List Bd) (x : Bool × Nat × Nat) (hx : Bnds [(.pr .bool (.pr .mag .mag))] b x) (hp : ∀ c0 ∈ ([0 < x.2.2] : List Prop), c0) : (rdenP_R b x).ok := one_ok (lt2_mono (prb_mx (b0 b)).2 (Bnds.h1 hx).pr.2.pr.2.mag) rfl
theorem rdenP_sig (x : Bool × Nat × Nat) (hx : Bnds [(.pr .bool (.pr .mag .mag))] [(.p .u (.p (.n 549755813888) (.n 549755813888)))] x) (hp : ∀ c0 ∈ ([0 < x.2.2] : List Prop), c0) : Sig Tryz.prog 98 (argsE [(.pr .bool (.pr .mag .mag))] x) (rdenP_R [(.p .u (.p (.n 549755813888) (.n 549755813888)))] x).exp := by
  have hp0 : 0 < x.2.2 := hp _ (List.mem_cons_self)
  exact sigW hmix Tryz.func98 rfl rfl (by decide) (n := 10) (G := [(100, .c rone_c)]) hx rfl rfl (rdenP_ok _ x hx hp) (.nil) (kcast (by kernel_rfl) (And.intro (fun (h1 : (limbs x.2.2).length = 0) => (by have := nl0.1 (show (limbs x.2.2).length = 0 by assumption); omega : 1 = x.2.2)) (fun (h2 : ¬ ((limbs x.2.2).length = 0)) => (rfl : x.2.2 = x.2.2))))
def rdenP_c : Ctr Tryz.prog := ⟨98, [(.pr .bool (.pr .mag .mag))], [(.p .u (.p (.n 549755813888) (.n 549755813888)))], fun z => [0 < z.2.2], fun b z => rdenP_R b z, fun z hx hp => rdenP_sig z hx hp, fun _ _ => rfl, fun b z hx hp => rdenP_ok b z hx hp⟩
abbrev rnorm_R (b : List Bd) (x : Bool × Nat × Nat) : WV := .tup [.agg [.dt .rat (.n (b0 b).mx) (sgQ x.1 x.2.1 x.2.2)], .one (.kn .i64 0)]
theorem rnorm_ok (b : List Bd) (x : Bool × Nat × Nat) (hx : Bnds [(.pr .bool (.pr .mag .mag))] b x) (hp : ∀ c0 ∈ ([0 < x.2.2] : List Prop), c0) : (rnorm_R b x).ok := tup_cons (agg_rat (sgQ_bnd0 (lt2_mono (prb_mx (b0 b)).1 (Bnds.h1 hx).pr.2.pr.1.mag) (lt2_mono (prb_mx (b0 b)).2 (Bnds.h1 hx).pr.2.pr.2.mag))) (tup_cons kn_ok tup_nil)
theorem rnorm_sig (x : Bool × Nat × Nat) (hx : Bnds [(.pr .bool (.pr .mag .mag))] [(.p .u (.p (.n 549755813888) (.n 549755813888)))] x) (hp : ∀ c0 ∈ ([0 < x.2.2] : List Prop), c0) : Sig Tryz.prog 194 (argsE [(.pr .bool (.pr .mag .mag))] x) (rnorm_R [(.p .u (.p (.n 549755813888) (.n 549755813888)))] x).exp := by
  have hp0 : 0 < x.2.2 := hp _ (List.mem_cons_self)
  exact sigW hmix Tryz.func194 rfl rfl (by decide) (n := 22) (G := [(93, .c bits_c), (96, .c reduce_c)]) hx rfl rfl (rnorm_ok _ x hx hp) (.cond (.cond (.dead) (.h 3 5 (.c rdenP_c) (.nil))) (.h 3 5 (.c rdenP_c) (.nil))) (kcast (by kernel_rfl) (And.intro (fun (h1 : 0 < (limbs x.2.2).length) => And.intro (fun (h2 : bl x.2.2 = 0) => (absurd (bl_eq0.1 h2) (by omega) : False)) (fun (h3 : ¬ (bl x.2.2 = 0)) => I (hp0 : 0 < x.2.2) ((rfl : sgQ x.1 x.2.1 x.2.2 = sgQ x.1 x.2.1 x.2.2)))) (fun (h4 : ¬ (0 < (limbs x.2.2).length)) => I (hp0 : 0 < x.2.2) ((rfl : sgQ x.1 x.2.1 x.2.2 = sgQ x.1 x.2.1 x.2.2)))))
def rnorm_c : Ctr Tryz.prog := ⟨194, [(.pr .bool (.pr .mag .mag))], [(.p .u (.p (.n 549755813888) (.n 549755813888)))], fun z => [0 < z.2.2], fun b z => rnorm_R b z, fun z hx hp => rnorm_sig z hx hp, fun _ _ => rfl, fun b z hx hp => rnorm_ok b z hx hp⟩
abbrev sscaled_R (b : List Bd) (r : Rat) (k : Int) : WV := .tup [.one (.dt .mag (.n ((b0 b).nb + 128)) (sc r k.toNat)), .one (.dt .bool .u (scm r k.toNat))]
theorem sscaled_ok (b : List Bd) (r : Rat) (k : Int) (hx : Bnds [.rat, (.int .i64)] b (r, k)) (hp : ∀ c0 ∈ ([0 ≤ k, k ≤ 64] : List Prop), c0) : (sscaled_R b r k).ok := tup_cons (one_ok (sc_b (Bnds.h2 hx).1 (by have := hp _ (List.mem_cons_of_mem _ List.mem_cons_self); omega)) rfl) (tup_cons (one_ok trivial rfl) tup_nil)
theorem sscaled_sig (r : Rat) (k : Int) (hx : Bnds [.rat, (.int .i64)] [(.n 15000), (.n 18446744073709551616)] (r, k)) (hp : ∀ c0 ∈ ([0 ≤ k, k ≤ 64] : List Prop), c0) : Sig Tryz.prog 191 (argsE [.rat, (.int .i64)] (r, k)) (sscaled_R [(.n 15000), (.n 18446744073709551616)] r k).exp := by
  have hx0 : Bnd .rat (.n 15000) r := hx.1
  have hx1 : Int.natAbs k ≤ 18446744073709551616 := hx.2
  have hp0 : 0 ≤ k := hp _ (List.mem_cons_self)
  have hp1 : k ≤ 64 := hp _ (List.mem_cons_of_mem _ (List.mem_cons_self))
  exact sigW hmix Tryz.func191 rfl rfl (by decide) (n := 38) (G := [(93, .c bits_c), (158, .c div_c)]) hx rfl rfl (sscaled_ok _ r k hx hp) (.h 4 2 (.c shupZ_c) (.h 4 2 (.c shupZ_c) (.cond (.nil) (.h 8 2 (.mag r.den 15001) (.nil))))) (kcast (by kernel_rfl) (I (by omega : 0 ≤ k) (I (by omega : k ≤ 16384) (I (by omega : 0 ≤ k) (I (by omega : k ≤ 16384) (And.intro (fun (h1 : (denL r.den).length = 0) => And.intro (by unfold sc; rw [denL_one r.den_nz h1, Nat.div_one] : (r.num.natAbs * 2 ^ k.toNat) * 2 ^ k.toNat = sc r k.toNat) (by unfold scm; rw [denL_one r.den_nz h1, Nat.mod_one]; rfl : false = scm r k.toNat)) (fun (h2 : ¬ ((denL r.den).length = 0)) => I (denL_limbs (by omega) : denL r.den = limbs r.den) (I (le2_lt2 hx0.2 : lt2 r.den 15001) (I (Nat.pos_of_ne_zero r.den_nz : 0 < r.den) (And.intro (rfl : ((r.num.natAbs * 2 ^ k.toNat) * 2 ^ k.toNat) / r.den = sc r k.toNat) (rfl : decide (0 < bl (((r.num.natAbs * 2 ^ k.toNat) * 2 ^ k.toNat) % r.den)) = scm r k.toNat)))))))))))
def sscaled_c : Ctr Tryz.prog := ⟨191, [.rat, (.int .i64)], [(.n 15000), (.n 18446744073709551616)], fun z => [0 ≤ z.2, z.2 ≤ 64], fun b z => sscaled_R b z.1 z.2, fun z hx hp => sscaled_sig z.1 z.2 hx hp, fun _ _ => rfl, fun b z hx hp => sscaled_ok b z.1 z.2 hx hp⟩
theorem argC_one : argC (.sl (.nat .u32)) ([1] : List Nat) = argC .mag (1 : Nat) := by
  have h := argsE_mag 1
  rw [limbs_one] at h
  have h2 : argC .mag (1 : Nat) = argC (.sl (.nat .u32)) ([1] : List Nat) := by injection h
  exact h2.symm
theorem argsE_1n (m : Nat) : argsE [.sl (.nat .u32), .nat .i64] (([1] : List Nat), m) = argsE [.mag, .nat .i64] ((1 : Nat), m) := by
  show [argC (.sl (.nat .u32)) ([1] : List Nat), argC (.nat .i64) m] = [argC .mag (1 : Nat), argC (.nat .i64) m]
  rw [argC_one]
theorem argsE_1z (m : Int) : argsE [.sl (.nat .u32), .int .i64] (([1] : List Nat), m) = argsE [.mag, .int .i64] ((1 : Nat), m) := by
  show [argC (.sl (.nat .u32)) ([1] : List Nat), argC (.int .i64) m] = [argC .mag (1 : Nat), argC (.int .i64) m]
  rw [argC_one]
theorem argsE_m1 (x : Nat) : argsE [.mag, .sl (.nat .u32)] (x, ([1] : List Nat)) = argsE [.mag, .mag] (x, (1 : Nat)) := by
  show [argC .mag x, argC (.sl (.nat .u32)) ([1] : List Nat)] = [argC .mag x, argC .mag (1 : Nat)]
  rw [argC_one]
def shup1_c : Ctr Tryz.prog := ⟨190, [.sl (.nat .u32), .nat .i64], [.s 1 (.n 4294967295), .n 16384], fun z => [z.1 = [1]], fun b z => shupM_R [.n 1, b1 b] 1 z.2,
  fun z hx hp => by
    have h0 : z.1 = [1] := hp _ List.mem_cons_self
    have h := shupM_sig 1 z.2 ⟨lt2_one (by decide), hx.2⟩ (by intro p hp; cases hp)
    rw [← argsE_1n z.2, ← h0] at h; exact h,
  fun _ _ => rfl, fun b z hx hp => tup_cons (one_ok (lt2_up (lt2_lit rfl) (Bnds.h2 hx).2.nat) rfl) (tup_cons kn_ok tup_nil)⟩
def shup1Z_c : Ctr Tryz.prog := ⟨190, [.sl (.nat .u32), .int .i64], [.s 1 (.n 4294967295), .n 18446744073709551616], fun z => [z.1 = [1], 0 ≤ z.2, z.2 ≤ 16384], fun b z => shupM_R [.n 1, .n 16384] 1 z.2.toNat,
  fun z hx hp => by
    have h0 : z.1 = [1] := hp _ List.mem_cons_self
    have h1 : 0 ≤ z.2 := hp _ (List.mem_cons_of_mem _ List.mem_cons_self)
    have h2 : z.2 ≤ 16384 := hp _ (List.mem_cons_of_mem _ (List.mem_cons_of_mem _ List.mem_cons_self))
    have h := shupM_sig 1 z.2.toNat ⟨lt2_one (by decide), tn_le h2⟩ (by intro p hp; cases hp)
    rw [← argsE_iz' 1 z.2 h1, ← argsE_1z z.2, ← h0] at h; exact h,
  fun _ _ => rfl, fun b z hx hp => tup_cons (one_ok (lt2_up (lt2_lit rfl) (tn_le (hp _ (List.mem_cons_of_mem _ (List.mem_cons_of_mem _ List.mem_cons_self))))) rfl) (tup_cons kn_ok tup_nil)⟩
def add1_c : Ctr Tryz.prog := ⟨150, [.mag, .sl (.nat .u32)], [.n 1099511627776, .s 1 (.n 4294967295)], fun z => [z.2 = [1]], fun b z => add_R [b0 b, .n 1] z.1 1,
  fun z hx hp => by
    have h0 : z.2 = [1] := hp _ List.mem_cons_self
    have h := add_sig z.1 1 ⟨hx.1, lt2_one (b := 1099511627776) (by decide)⟩ (by intro p hp; cases hp)
    rw [← argsE_m1 z.1, ← h0] at h; exact h,
  fun _ _ => rfl, fun b z hx hp => one_ok (lt2_add (Bnds.h2 hx).1.mag (lt2_lit rfl)) rfl⟩
abbrev sroot_R (b : List Bd) (n : Nat) : WV := .c (.one (.dt .mag (b0 b) (isq n)))
theorem sroot_ok (b : List Bd) (n : Nat) (hx : Bnds [.mag] b n) (hp : ∀ c0 ∈ ([] : List Prop), c0) : (sroot_R b n).ok := one_ok ((Bnds.h1 hx).magLe (isq_self n)) rfl
theorem sroot_sig (n : Nat) (hx : Bnds [.mag] [(.n 16000)] n) (hp : ∀ c0 ∈ ([] : List Prop), c0) : Sig Tryz.prog 192 (argsE [.mag] n) (sroot_R [(.n 16000)] n).exp := by
  have hx0 : lt2 n 16000 := hx
  have hl0 : (limbs n).length ≤ 501 := limbs_len_le (Nat.le_of_lt hx0)
  exact sigW hmix Tryz.func192 rfl rfl (by decide) (n := 42) (G := [(93, .c bits_c), (150, .c add_c), (158, .c div_c), (193, .c cmp_c)]) hx rfl rfl (sroot_ok _ n hx hp) (.cond (.nil) (.h 3 0 (.mk (.im (.nat .u32) (.n 4294967295))) (.h 3 5 (.c shup1_c) (.loop [.s 3 .mag (.n 40000)] (fun (x : Nat) => Newt n x) (fun (x : Nat) => x) (fun (x : Nat) => .h 5 3 (.c shdn_c) (.nil)))))) (kcast (by kernel_rfl) (And.intro (fun (h1 : bl n = 0) => (by rw [bl_eq0.1 (show bl n = 0 by assumption)]; rfl : 0 = isq n)) (fun (h2 : ¬ (bl n = 0)) => have hn0 := (show 0 < n from Nat.pos_of_ne_zero (mt bl_eq0.2 (by assumption))); have hbn := (bl_lb hx0 : bl n ≤ 16000); I (rfl : [1] = [1]) (I (Newt.start : Newt n (1 * 2 ^ (((bl n) + 1) / 2))) (fun (x : Nat) (hb3 : HB [.s 3 .mag (.n 40000)] x) (hN : Newt n x) => have hxb := (show Bnd .mag (.n 40000) x from hb3); have hNx := hN.hx; I (hN.hx : 0 < x) (I (rfl : (-1) = -1) (And.intro (fun (h4 : 0 ≤ cmpN ((x + (n / x)) / 2 ^ 1) x) => (hN.fin (Nat.le_of_not_lt (mt cmp_lt0.2 (Int.not_lt.2 h4))) : x = isq n)) (fun (h5 : ¬ (0 ≤ cmpN ((x + (n / x)) / 2 ^ 1) x)) => have hlt := cmp_lt0.1 (Int.not_le.1 h5); I (hxb.magLe (Nat.le_of_lt hlt) : Bnd .mag (.n 40000) ((x + (n / x)) / 2 ^ 1)) (And.intro (hN.step hn0 : Newt n ((x + (n / x)) / 2 ^ 1)) (hlt : (x + (n / x)) / 2 ^ 1 < x))))))))))
def sroot_c : Ctr Tryz.prog := ⟨192, [.mag], [(.n 16000)], fun z => [], fun b z => sroot_R b z, fun z hx hp => sroot_sig z hx hp, fun _ _ => rfl, fun b z hx hp => sroot_ok b z hx hp⟩
end Go.Proofs.YtcjgaaibflcdiaaGreat.Sx

namespace Go.Proofs.YtcjgaaibflcdiaaGreat.Sx
open Go Go.Proofs
set_option linter.unusedVariables false
set_option linter.unusedSimpArgs false
set_option maxRecDepth 20000
set_option maxHeartbeats 4000000
abbrev sofp_R (b : List Bd) (x : Rat) (y : Rat) : WV := .c (.agg [.dt (.pr .rat .rat) (.p (.n (max (b0 b).nb (b1 b).nb)) (.n (max (b0 b).nb (b1 b).nb))) (minQ x y, maxQ x y)])
theorem sofp_ok (b : List Bd) (x : Rat) (y : Rat) (hx : Bnds [.rat, .rat] b (x, y)) (hp : ∀ c0 ∈ ([] : List Prop), c0) : (sofp_R b x y).ok := agg_ok ⟨minQ_bnd (Bnds.h2 hx).1 (Bnds.h2 hx).2, maxQ_bnd (Bnds.h2 hx).1 (Bnds.h2 hx).2⟩
theorem sofp_sig (x : Rat) (y : Rat) (hx : Bnds [.rat, .rat] [(.n 68719476736), (.n 68719476736)] (x, y)) (hp : ∀ c0 ∈ ([] : List Prop), c0) : Sig Tryz.prog 195 (argsE [.rat, .rat] (x, y)) (sofp_R [(.n 68719476736), (.n 68719476736)] x y).exp := by
  have hx0 : Bnd .rat (.n 68719476736) x := hx.1
  have hx1 : Bnd .rat (.n 68719476736) y := hx.2
  exact sigW hmix Tryz.func195 rfl rfl (by decide) (n := 12) (G := [(109, .c rmin_c), (110, .c rmax_c)]) hx rfl rfl (sofp_ok _ x y hx hp) (.nil) (kcast (by kernel_rfl) ((rfl : (minQ x y, maxQ x y) = (minQ x y, maxQ x y))))
def sofp_c : Ctr Tryz.prog := ⟨195, [.rat, .rat], [(.n 68719476736), (.n 68719476736)], fun z => [], fun b z => sofp_R b z.1 z.2, fun z hx hp => sofp_sig z.1 z.2 hx hp, fun _ _ => rfl, fun b z hx hp => sofp_ok b z.1 z.2 hx hp⟩
abbrev spoint_R (b : List Bd) (r : Rat) : WV := .c (.agg [.dt (.pr .rat .rat) (.p (.n (b0 b).nb) (.n (b0 b).nb)) (r, r)])
theorem spoint_ok (b : List Bd) (r : Rat) (hx : Bnds [.rat] b r) (hp : ∀ c0 ∈ ([] : List Prop), c0) : (spoint_R b r).ok := agg_ok ⟨rat_mx (Bnds.h1 hx) (Nat.le_refl _), rat_mx (Bnds.h1 hx) (Nat.le_refl _)⟩
theorem spoint_sig (r : Rat) (hx : Bnds [.rat] [(.n 68719476736)] r) (hp : ∀ c0 ∈ ([] : List Prop), c0) : Sig Tryz.prog 147 (argsE [.rat] r) (spoint_R [(.n 68719476736)] r).exp := by
  have hx0 : Bnd .rat (.n 68719476736) r := hx
  exact sigW hmix Tryz.func147 rfl rfl (by decide) (n := 6) (G := [(195, .c sofp_c)]) hx rfl rfl (spoint_ok _ r hx hp) (.nil) (kcast (by kernel_rfl) ((by rw [minQ_self, maxQ_self] : (minQ r r, maxQ r r) = (r, r))))
def spoint_c : Ctr Tryz.prog := ⟨147, [.rat], [(.n 68719476736)], fun z => [], fun b z => spoint_R b z, fun z hx hp => spoint_sig z hx hp, fun _ _ => rfl, fun b z hx hp => spoint_ok b z hx hp⟩
abbrev sRoot_R (b : List Bd) (s : Rat × Rat) (k : Int) : WV := .tup [.agg [.dt (.pr .rat .rat) (.p (.n ((b0 b).mx + 130)) (.n ((b0 b).mx + 130))) (rootLo s.2 k.toNat, rootHi s.2 k.toNat)], .one (.kn .i64 0)]
theorem sRoot_ok (b : List Bd) (s : Rat × Rat) (k : Int) (hx : Bnds [(.pr .rat .rat), (.int .i64)] b (s, k)) (hp : ∀ c0 ∈ ([0 ≤ k, k ≤ 64, s.1 = s.2, ¬ s.2.num < 0] : List Prop), c0) : (sRoot_R b s k).ok := tup_cons (agg_ok (rootS_b (Bnds.h2 hx).1 (by have := hp _ (List.mem_cons_of_mem _ List.mem_cons_self); omega))) (tup_cons kn_ok tup_nil)
theorem sRoot_sig (s : Rat × Rat) (k : Int) (hx : Bnds [(.pr .rat .rat), (.int .i64)] [(.p (.n 15000) (.n 15000)), (.n 9223372036854775808)] (s, k)) (hp : ∀ c0 ∈ ([0 ≤ k, k ≤ 64, s.1 = s.2, ¬ s.2.num < 0] : List Prop), c0) : Sig Tryz.prog 146 (argsE [(.pr .rat .rat), (.int .i64)] (s, k)) (sRoot_R [(.p (.n 15000) (.n 15000)), (.n 9223372036854775808)] s k).exp := by
  have hx1 : Int.natAbs k ≤ 9223372036854775808 := hx.2
  have hp0 : 0 ≤ k := hp _ (List.mem_cons_self)
  have hp1 : k ≤ 64 := hp _ (List.mem_cons_of_mem _ (List.mem_cons_self))
  have hp2 : s.1 = s.2 := hp _ (List.mem_cons_of_mem _ (List.mem_cons_of_mem _ (List.mem_cons_self)))
  have hp3 : ¬ s.2.num < 0 := hp _ (List.mem_cons_of_mem _ (List.mem_cons_of_mem _ (List.mem_cons_of_mem _ (List.mem_cons_self))))
  exact sigW hmix Tryz.func146 rfl rfl (by decide) (n := 83) (G := [(53, .c rsign_c), (97, .c mul_c), (191, .c sscaled_c), (192, .c sroot_c), (193, .c cmp_c), (194, .c rnorm_c)]) hx rfl rfl (sRoot_ok _ s k hx hp) (.cond (.dead) ((fun (k1 : Int) => .h 4 0 (.mk (.im (.nat .u32) (.n 4294967295))) (.h 4 2 (.c shup1Z_c) (.cond (.cond (.h 12 1 (.mk (.im (.nat .u32) (.n 4294967295))) (.h 12 2 (.c add1_c) (.nil))) (.cond (.h 12 1 (.mk (.im (.nat .u32) (.n 4294967295))) (.h 12 2 (.c add1_c) (.nil))) (.nil))) (.cond (.h 12 1 (.mk (.im (.nat .u32) (.n 4294967295))) (.h 12 2 (.c add1_c) (.nil))) (.cond (.h 12 1 (.mk (.im (.nat .u32) (.n 4294967295))) (.h 12 2 (.c add1_c) (.nil))) (.nil)))))) (min (max k 0) 4096))) (kcast (by kernel_rfl) (And.intro (fun (h1 : sgnQ s.2 < 0) => (hp3 (sgn_lt.1 h1) : False)) (fun (h2 : ¬ (sgnQ s.2 < 0)) => (fun (k1 : Int) (hk1 : k1 = min (max k 0) 4096) => have hk := (show k1 = k by omega); I (rfl : [1] = [1]) (I (by omega : 0 ≤ k1) (I (by omega : k1 ≤ 16384) (And.intro (fun (h3 : 0 < sgnQ s.1) => I (by omega : 0 ≤ k1) (I (by omega : k1 ≤ 64) (I (by omega : 0 ≤ k1) (I (by omega : k1 ≤ 64) (And.intro (fun (h4 : scm s.2 k1.toNat = true) => I (rfl : [1] = [1]) (I ((by rw [Nat.one_mul]; exact Nat.pow_pos (by omega)) : 0 < (false, isq (sc s.1 k1.toNat), 1 * 2 ^ k1.toNat).2.2) (I ((by rw [Nat.one_mul]; exact Nat.pow_pos (by omega)) : 0 < (false, (isq (sc s.2 k1.toNat)) + 1, 1 * 2 ^ k1.toNat).2.2) ((by rw [← hk]; exact Prod.ext (by rw [hp2]; exact rootLo_e hp3) (rootHi_1 hp3 (.inl h4)) : (sgQ (false, isq (sc s.1 k1.toNat), 1 * 2 ^ k1.toNat).1 (false, isq (sc s.1 k1.toNat), 1 * 2 ^ k1.toNat).2.1 (false, isq (sc s.1 k1.toNat), 1 * 2 ^ k1.toNat).2.2, sgQ (false, (isq (sc s.2 k1.toNat)) + 1, 1 * 2 ^ k1.toNat).1 (false, (isq (sc s.2 k1.toNat)) + 1, 1 * 2 ^ k1.toNat).2.1 (false, (isq (sc s.2 k1.toNat)) + 1, 1 * 2 ^ k1.toNat).2.2) = (rootLo s.2 k.toNat, rootHi s.2 k.toNat)))))) (fun (h5 : ¬ (scm s.2 k1.toNat = true)) => And.intro (fun (h6 : cmpN ((isq (sc s.2 k1.toNat)) * (isq (sc s.2 k1.toNat))) (sc s.2 k1.toNat) < 0) => I (rfl : [1] = [1]) (I ((by rw [Nat.one_mul]; exact Nat.pow_pos (by omega)) : 0 < (false, isq (sc s.1 k1.toNat), 1 * 2 ^ k1.toNat).2.2) (I ((by rw [Nat.one_mul]; exact Nat.pow_pos (by omega)) : 0 < (false, (isq (sc s.2 k1.toNat)) + 1, 1 * 2 ^ k1.toNat).2.2) ((by rw [← hk]; exact Prod.ext (by rw [hp2]; exact rootLo_e hp3) (rootHi_1 hp3 (.inr h6)) : (sgQ (false, isq (sc s.1 k1.toNat), 1 * 2 ^ k1.toNat).1 (false, isq (sc s.1 k1.toNat), 1 * 2 ^ k1.toNat).2.1 (false, isq (sc s.1 k1.toNat), 1 * 2 ^ k1.toNat).2.2, sgQ (false, (isq (sc s.2 k1.toNat)) + 1, 1 * 2 ^ k1.toNat).1 (false, (isq (sc s.2 k1.toNat)) + 1, 1 * 2 ^ k1.toNat).2.1 (false, (isq (sc s.2 k1.toNat)) + 1, 1 * 2 ^ k1.toNat).2.2) = (rootLo s.2 k.toNat, rootHi s.2 k.toNat)))))) (fun (h7 : ¬ (cmpN ((isq (sc s.2 k1.toNat)) * (isq (sc s.2 k1.toNat))) (sc s.2 k1.toNat) < 0)) => I ((by rw [Nat.one_mul]; exact Nat.pow_pos (by omega)) : 0 < (false, isq (sc s.1 k1.toNat), 1 * 2 ^ k1.toNat).2.2) (I ((by rw [Nat.one_mul]; exact Nat.pow_pos (by omega)) : 0 < (false, isq (sc s.2 k1.toNat), 1 * 2 ^ k1.toNat).2.2) ((by rw [← hk]; exact Prod.ext (by rw [hp2]; exact rootLo_e hp3) (rootHi_2 hp3 h5 h7) : (sgQ (false, isq (sc s.1 k1.toNat), 1 * 2 ^ k1.toNat).1 (false, isq (sc s.1 k1.toNat), 1 * 2 ^ k1.toNat).2.1 (false, isq (sc s.1 k1.toNat), 1 * 2 ^ k1.toNat).2.2, sgQ (false, isq (sc s.2 k1.toNat), 1 * 2 ^ k1.toNat).1 (false, isq (sc s.2 k1.toNat), 1 * 2 ^ k1.toNat).2.1 (false, isq (sc s.2 k1.toNat), 1 * 2 ^ k1.toNat).2.2) = (rootLo s.2 k.toNat, rootHi s.2 k.toNat))))))))))) (fun (h8 : ¬ (0 < sgnQ s.1)) => I (by omega : 0 ≤ k1) (I (by omega : k1 ≤ 64) (And.intro (fun (h9 : scm s.2 k1.toNat = true) => I (rfl : [1] = [1]) (I ((by rw [Nat.one_mul]; exact Nat.pow_pos (by omega)) : 0 < (false, 0, 1 * 2 ^ k1.toNat).2.2) (I ((by rw [Nat.one_mul]; exact Nat.pow_pos (by omega)) : 0 < (false, (isq (sc s.2 k1.toNat)) + 1, 1 * 2 ^ k1.toNat).2.2) ((by rw [← hk]; exact Prod.ext (rootLo_z hp3 (by rw [← hp2]; exact h8)) (rootHi_1 hp3 (.inl h9)) : (sgQ (false, 0, 1 * 2 ^ k1.toNat).1 (false, 0, 1 * 2 ^ k1.toNat).2.1 (false, 0, 1 * 2 ^ k1.toNat).2.2, sgQ (false, (isq (sc s.2 k1.toNat)) + 1, 1 * 2 ^ k1.toNat).1 (false, (isq (sc s.2 k1.toNat)) + 1, 1 * 2 ^ k1.toNat).2.1 (false, (isq (sc s.2 k1.toNat)) + 1, 1 * 2 ^ k1.toNat).2.2) = (rootLo s.2 k.toNat, rootHi s.2 k.toNat)))))) (fun (h10 : ¬ (scm s.2 k1.toNat = true)) => And.intro (fun (h11 : cmpN ((isq (sc s.2 k1.toNat)) * (isq (sc s.2 k1.toNat))) (sc s.2 k1.toNat) < 0) => I (rfl : [1] = [1]) (I ((by rw [Nat.one_mul]; exact Nat.pow_pos (by omega)) : 0 < (false, 0, 1 * 2 ^ k1.toNat).2.2) (I ((by rw [Nat.one_mul]; exact Nat.pow_pos (by omega)) : 0 < (false, (isq (sc s.2 k1.toNat)) + 1, 1 * 2 ^ k1.toNat).2.2) ((by rw [← hk]; exact Prod.ext (rootLo_z hp3 (by rw [← hp2]; exact h8)) (rootHi_1 hp3 (.inr h11)) : (sgQ (false, 0, 1 * 2 ^ k1.toNat).1 (false, 0, 1 * 2 ^ k1.toNat).2.1 (false, 0, 1 * 2 ^ k1.toNat).2.2, sgQ (false, (isq (sc s.2 k1.toNat)) + 1, 1 * 2 ^ k1.toNat).1 (false, (isq (sc s.2 k1.toNat)) + 1, 1 * 2 ^ k1.toNat).2.1 (false, (isq (sc s.2 k1.toNat)) + 1, 1 * 2 ^ k1.toNat).2.2) = (rootLo s.2 k.toNat, rootHi s.2 k.toNat)))))) (fun (h12 : ¬ (cmpN ((isq (sc s.2 k1.toNat)) * (isq (sc s.2 k1.toNat))) (sc s.2 k1.toNat) < 0)) => I ((by rw [Nat.one_mul]; exact Nat.pow_pos (by omega)) : 0 < (false, 0, 1 * 2 ^ k1.toNat).2.2) (I ((by rw [Nat.one_mul]; exact Nat.pow_pos (by omega)) : 0 < (false, isq (sc s.2 k1.toNat), 1 * 2 ^ k1.toNat).2.2) ((by rw [← hk]; exact Prod.ext (rootLo_z hp3 (by rw [← hp2]; exact h8)) (rootHi_2 hp3 h10 h12) : (sgQ (false, 0, 1 * 2 ^ k1.toNat).1 (false, 0, 1 * 2 ^ k1.toNat).2.1 (false, 0, 1 * 2 ^ k1.toNat).2.2, sgQ (false, isq (sc s.2 k1.toNat), 1 * 2 ^ k1.toNat).1 (false, isq (sc s.2 k1.toNat), 1 * 2 ^ k1.toNat).2.1 (false, isq (sc s.2 k1.toNat), 1 * 2 ^ k1.toNat).2.2) = (rootLo s.2 k.toNat, rootHi s.2 k.toNat))))))))))))) (min (max k 0) 4096) rfl)))
def sRoot_c : Ctr Tryz.prog := ⟨146, [(.pr .rat .rat), (.int .i64)], [(.p (.n 15000) (.n 15000)), (.n 9223372036854775808)], fun z => [0 ≤ z.2, z.2 ≤ 64, z.1.1 = z.1.2, ¬ z.1.2.num < 0], fun b z => sRoot_R b z.1 z.2, fun z hx hp => sRoot_sig z.1 z.2 hx hp, fun _ _ => rfl, fun b z hx hp => sRoot_ok b z.1 z.2 hx hp⟩
abbrev mRoot_R (b : List Bd) (r : Rat) (k : Int) : WV := .tup [.agg [.dt (.pr .rat .rat) (.p (.n ((b0 b).nb + 130)) (.n ((b0 b).nb + 130))) (rootLo r k.toNat, rootHi r k.toNat)], .one (.dt .bool .u (decide (¬ r.num < 0)))]
theorem mRoot_ok (b : List Bd) (r : Rat) (k : Int) (hx : Bnds [.rat, (.int .i64)] b (r, k)) (hp : ∀ c0 ∈ ([0 ≤ k, k ≤ 64] : List Prop), c0) : (mRoot_R b r k).ok := tup_cons (agg_ok ⟨rootLo_b (Bnds.h2 hx).1 (by have := hp _ (List.mem_cons_of_mem _ List.mem_cons_self); omega), rootHi_b (Bnds.h2 hx).1 (by have := hp _ (List.mem_cons_of_mem _ List.mem_cons_self); omega)⟩) (tup_cons (one_ok trivial rfl) tup_nil)
theorem mRoot_sig (r : Rat) (k : Int) (hx : Bnds [.rat, (.int .i64)] [(.n 15000), (.n 9223372036854775808)] (r, k)) (hp : ∀ c0 ∈ ([0 ≤ k, k ≤ 64] : List Prop), c0) : Sig Tryz.prog 90 (argsE [.rat, (.int .i64)] (r, k)) (mRoot_R [(.n 15000), (.n 9223372036854775808)] r k).exp := by
  have hx0 : Bnd .rat (.n 15000) r := hx.1
  have hx1 : Int.natAbs k ≤ 9223372036854775808 := hx.2
  have hp0 : 0 ≤ k := hp _ (List.mem_cons_self)
  have hp1 : k ≤ 64 := hp _ (List.mem_cons_of_mem _ (List.mem_cons_self))
  exact sigW hmix Tryz.func90 rfl rfl (by decide) (n := 37) (G := [(53, .c rsign_c), (103, .c orat_c), (146, .c sRoot_c), (147, .c spoint_c)]) hx rfl rfl (mRoot_ok _ r k hx hp) (.cond (.nil) (.cond (.dead) (.cond (.dead) (.nil)))) (kcast (by kernel_rfl) (And.intro (fun (h1 : sgnQ r < 0) => And.intro (Prod.ext (lo_neg (sgn_lt.1 h1)) (hi_neg (sgn_lt.1 h1)) : (0, 0) = (rootLo r k.toNat, rootHi r k.toNat)) ((decide_eq_false (fun e => e (sgn_lt.1 h1))).symm : false = decide (¬ r.num < 0))) (fun (h2 : ¬ (sgnQ r < 0)) => And.intro (fun (h3 : k < 0) => (by omega : False)) (fun (h4 : ¬ (k < 0)) => And.intro (fun (h5 : 64 < k) => (by omega : False)) (fun (h6 : ¬ (64 < k)) => have hnn := mt sgn_lt.2 h2; I (by omega : 0 ≤ k) (I (by omega : k ≤ 64) (I (rfl : (r, r).1 = (r, r).2) (I (hnn : ¬ (r, r).2.num < 0) (And.intro (rfl : (rootLo (r, r).2 k.toNat, rootHi (r, r).2 k.toNat) = (rootLo r k.toNat, rootHi r k.toNat)) ((decide_eq_true (mt sgn_lt.2 h2)).symm : true = decide (¬ r.num < 0)))))))))))
def mRoot_c : Ctr Tryz.prog := ⟨90, [.rat, (.int .i64)], [(.n 15000), (.n 9223372036854775808)], fun z => [0 ≤ z.2, z.2 ≤ 64], fun b z => mRoot_R b z.1 z.2, fun z hx hp => mRoot_sig z.1 z.2 hx hp, fun _ _ => rfl, fun b z hx hp => mRoot_ok b z.1 z.2 hx hp⟩
end Go.Proofs.YtcjgaaibflcdiaaGreat.Sx

namespace Go.Proofs.YtcjgaaibflcdiaaGreat.Sx
open Go
set_option linter.unusedVariables false
theorem cmpQ_le {x y : Rat} : cmpQ x y ≤ 0 ↔ x ≤ y := by
  rw [cmpQ_eq, Rat.le_iff]; split
  · omega
  · split <;> omega
theorem cmpQ_ge {x y : Rat} : 0 ≤ cmpQ x y ↔ y ≤ x := by
  rw [cmpQ_eq, Rat.le_iff]; split
  · omega
  · split <;> omega
theorem sg_le {n D : Nat} {r : Rat} (hD : 0 < D) (h0 : ¬ r.num < 0) : sgQ false n D ≤ r ↔ n ≤ r.num.natAbs * D / r.den := by
  obtain ⟨e1, e2⟩ := sgQ_norm (neg := false) (n := n) hD
  have hg : 0 < Nat.gcd n D := Nat.gcd_pos_of_pos_right _ hD
  have g1 : Nat.gcd n D * (n / Nat.gcd n D) = n := Nat.mul_div_cancel' (Nat.gcd_dvd_left _ _)
  have g2 : Nat.gcd n D * (D / Nat.gcd n D) = D := Nat.mul_div_cancel' (Nat.gcd_dvd_right _ _)
  rw [Rat.le_iff, e1, e2, Nat.le_div_iff_mul_le (Nat.pos_of_ne_zero r.den_nz)]
  have e3 : sgI false n / ((Nat.gcd n D : Nat) : Int) = ((n / Nat.gcd n D : Nat) : Int) := by simp [sgI]
  have e4 : r.num = ((r.num.natAbs : Nat) : Int) := by omega
  rw [e3, e4, Int.natAbs_natCast]
  generalize r.num.natAbs = R at *
  generalize n / Nat.gcd n D = a at *
  generalize D / Nat.gcd n D = c at *
  generalize Nat.gcd n D = g at *
  subst g1 g2
  rw [← Int.natCast_mul, ← Int.natCast_mul, Int.ofNat_le, Nat.mul_assoc, Nat.mul_left_comm R g c]
  exact (Nat.mul_le_mul_left_iff hg).symm
def dq (K a : Nat) : Rat := sgQ false a (2 ^ K)
theorem dq_div (K a : Nat) : dq K a = (((a : Nat) : Int) : Rat) / ((2 ^ K : Nat) : Rat) := by unfold dq sgQ sgI; rw [Rat.mkRat_eq_div]; rfl
theorem two_ne (K : Nat) : ((2 ^ K : Nat) : Rat) ≠ 0 := by
  intro h
  have := Nat.pow_pos (n := K) (show 0 < 2 by omega)
  have h2 : ((2 ^ K : Nat) : Rat) = ((0 : Nat) : Rat) := h
  rw [Rat.natCast_inj] at h2
  omega
theorem dq_add (K a b : Nat) : dq K a + dq K b = dq K (a + b) := by
  have h := two_ne K
  rw [dq_div, dq_div, dq_div, Int.natCast_add, Rat.intCast_add]
  grind
theorem dq_half (K a : Nat) : dq K (2 * a) * (((1 : Int) : Rat) / ((2 : Int) : Rat)) = dq K a := by
  have h := two_ne K
  rw [dq_div, dq_div, Int.natCast_mul, Rat.intCast_mul]
  have h1 : ((1 : Int) : Rat) = 1 := rfl
  have h2 : ((2 : Int) : Rat) = 2 := rfl
  have h3 : ((((2 : Nat) : Int)) : Rat) = 2 := rfl
  rw [h1, h2, h3]; grind
theorem dq_succ (K a : Nat) : dq (K + 1) (2 * a) = dq K a := by unfold dq; rw [Nat.pow_succ, Nat.mul_comm 2 a, sgQ_scale _ _ _ _ (by omega)]
theorem dq_one (K : Nat) : ((1 : Int) : Rat) = dq K (2 ^ K) := by
  have h := two_ne K
  rw [dq_div]
  have h1 : ((1 : Int) : Rat) = 1 := rfl
  have h2 : (((2 ^ K : Nat) : Int) : Rat) = ((2 ^ K : Nat) : Rat) := rfl
  rw [h1, h2]; grind
theorem dq_zero (K : Nat) : (0 : Rat) = dq K 0 := (sgQ_zero _ _).symm
theorem dq_sq (K a : Nat) : dq K a * dq K a = sgQ false (a * a) (2 ^ K * 2 ^ K) := sgQ_mul false false a a (2 ^ K) (2 ^ K)
theorem dq_cmp {r : Rat} (h0 : ¬ r.num < 0) (K a : Nat) : cmpQ (dq K a * dq K a) r ≤ 0 ↔ a * a ≤ sc r K := by
  rw [cmpQ_le, dq_sq, sg_le (Nat.mul_pos (Nat.pow_pos (by omega)) (Nat.pow_pos (by omega))) h0, sc, Nat.mul_assoc]
theorem dq_num (K a : Nat) : (dq K a * ((2 ^ K : Nat) : Rat)).num.natAbs = a := by
  have h := two_ne K
  have e : dq K a * ((2 ^ K : Nat) : Rat) = (((a : Nat) : Int) : Rat) := by rw [dq_div]; grind
  rw [e, int_num]; rfl
theorem dq_le (K a b : Nat) : 0 ≤ cmpQ (dq K a) (dq K b) ↔ b ≤ a := by
  have h := two_ne K
  have hp : (0 : Rat) < ((2 ^ K : Nat) : Rat) := by
    have := Nat.pow_pos (n := K) (show 0 < 2 by omega)
    have h2 : ((0 : Nat) : Rat) < ((2 ^ K : Nat) : Rat) := Rat.natCast_lt_natCast.2 this
    exact h2
  rw [cmpQ_ge, ← Rat.not_lt]
  have e : dq K b * ((2 ^ K : Nat) : Rat) = (((b : Nat) : Int) : Rat) := by rw [dq_div]; grind
  rw [dq_div K a, Rat.div_lt_iff hp, e, Rat.intCast_lt_intCast]
  omega
theorem dq_b {K a m : Nat} (h : lt2 a m) (hK : K ≤ m) : Bnd .rat (.n m) (dq K a) := sgQ_bnd h (Nat.pow_le_pow_right (by omega) hK) (Nat.pow_pos (by omega))
structure St1 (r : Rat) (K : Nat) (s : Rat) : Prop where
  h : ∃ i, s = dq K (2 ^ (K + i)) ∧ 2 ^ (K + i) ≤ 2 * sc r K + 2 ^ K
def numA (K : Nat) (s : Rat) : Nat := (s * ((2 ^ K : Nat) : Rat)).num.natAbs
def mu1 (r : Rat) (K : Nat) (s : Rat) : Nat := 2 * sc r K + 2 ^ K + 1 - numA K s
theorem St1.start (r : Rat) (K : Nat) : St1 r K ((1 : Int) : Rat) := ⟨0, dq_one K, by rw [Nat.add_zero]; omega⟩
theorem St1.step {r : Rat} {K : Nat} {s : Rat} (h : St1 r K s) (h0 : ¬ r.num < 0) (hc : cmpQ (s * s) r ≤ 0) : St1 r K (s + s) ∧ mu1 r K (s + s) < mu1 r K s := by
  obtain ⟨i, rfl, hi⟩ := h.h
  rw [dq_cmp h0] at hc
  have hp := Nat.pow_pos (n := K + i) (show 0 < 2 by omega)
  have hq := Nat.le_mul_of_pos_left (2 ^ (K + i)) hp
  have hK := Nat.pow_pos (n := K) (show 0 < 2 by omega)
  have e : 2 ^ (K + i) + 2 ^ (K + i) = 2 ^ (K + (i + 1)) := by rw [← Nat.add_assoc, Nat.pow_succ]; omega
  refine ⟨⟨i + 1, by rw [dq_add, e], by omega⟩, ?_⟩
  rw [dq_add, mu1, mu1, numA, numA, dq_num, dq_num]; omega
theorem St1.bnd {r : Rat} {K : Nat} {s : Rat} (h : St1 r K s) {m : Nat} (hN : lt2 (sc r K) m) (hK : K ≤ m) : Bnd .rat (.n (m + 2)) s := by
  obtain ⟨i, rfl, hi⟩ := h.h
  refine dq_b ?_ (by omega)
  have h2 := Nat.pow_le_pow_right (show 0 < 2 by omega) hK
  unfold lt2 at *
  rw [show m + 2 = (m + 1) + 1 by omega, Nat.pow_succ, Nat.pow_succ]; omega
structure St2 (r : Rat) (K : Nat) (s l : Rat) : Prop where
  h : ∃ i a, s = dq K (2 ^ i) ∧ l = dq K a ∧ 2 ^ (i + 1) ∣ a ∧ a * a ≤ sc r K ∧ sc r K < (a + 2 ^ (i + 1)) * (a + 2 ^ (i + 1)) ∧ 2 ^ i ≤ 2 * sc r K + 2 ^ K
theorem St2.start {r : Rat} {K : Nat} {s : Rat} (h : St1 r K s) (h0 : ¬ r.num < 0) (hc : ¬ cmpQ (s * s) r ≤ 0) : St2 r K s 0 := by
  obtain ⟨i, rfl, hi⟩ := h.h
  rw [dq_cmp h0] at hc
  refine ⟨K + i, 0, rfl, dq_zero K, Nat.dvd_zero _, by omega, ?_, hi⟩
  have := Nat.mul_le_mul (Nat.pow_le_pow_right (show 0 < 2 by omega) (Nat.le_add_right (K + i) 1)) (Nat.pow_le_pow_right (show 0 < 2 by omega) (Nat.le_add_right (K + i) 1))
  rw [Nat.zero_add]; omega
theorem St2.go {r : Rat} {j : Nat} {s l : Rat} (h : St2 r (j + 1) s l) (h0 : ¬ r.num < 0) (ht : 0 ≤ cmpQ s (dq j 1)) :
    (cmpQ ((l + s) * (l + s)) r ≤ 0 → St2 r (j + 1) (s * (((1 : Int) : Rat) / ((2 : Int) : Rat))) (l + s)) ∧ (¬ cmpQ ((l + s) * (l + s)) r ≤ 0 → St2 r (j + 1) (s * (((1 : Int) : Rat) / ((2 : Int) : Rat))) l) ∧
    numA (j + 1) (s * (((1 : Int) : Rat) / ((2 : Int) : Rat))) < numA (j + 1) s := by
  obtain ⟨i, a, rfl, rfl, hd, h1, h2, h3⟩ := h.h
  rw [← dq_succ j 1, dq_le] at ht
  obtain ⟨i, rfl⟩ : ∃ q, i = q + 1 := ⟨i - 1, by
    rcases Nat.eq_zero_or_pos i with e | e
    · subst e; simp at ht
    · omega⟩
  have es : dq (j + 1) (2 ^ (i + 1)) * (((1 : Int) : Rat) / ((2 : Int) : Rat)) = dq (j + 1) (2 ^ i) := by rw [show 2 ^ (i + 1) = 2 * 2 ^ i by rw [Nat.pow_succ]; omega, dq_half]
  have hp := Nat.pow_pos (n := i) (show 0 < 2 by omega)
  have e1 : 2 ^ (i + 1) = 2 * 2 ^ i := by rw [Nat.pow_succ]; omega
  have e2 : 2 ^ (i + 1 + 1) = 2 * 2 ^ (i + 1) := by rw [Nat.pow_succ]; omega
  rw [es, dq_add, dq_cmp h0]
  have hd' : 2 ^ (i + 1) ∣ a := Nat.dvd_trans ⟨2, by rw [e2]; omega⟩ hd
  refine ⟨fun hc => ⟨i, a + 2 ^ (i + 1), rfl, rfl, Nat.dvd_add hd' (Nat.dvd_refl _), hc, ?_, by omega⟩, fun hc => ⟨i, a, rfl, rfl, hd', h1, by omega, by omega⟩, ?_⟩
  · rw [show a + 2 ^ (i + 1) + 2 ^ (i + 1) = a + 2 ^ (i + 1 + 1) by omega]; exact h2
  · rw [numA, numA, dq_num, dq_num]; omega
theorem sc_succ (r : Rat) (k m : Nat) : (4 * (m * m) ≤ sc r (k + 1) → m * m ≤ sc r k) ∧ (sc r (k + 1) < 4 * ((m + 1) * (m + 1)) → sc r k < (m + 1) * (m + 1)) := by
  have hd := Nat.pos_of_ne_zero r.den_nz
  have e : r.num.natAbs * 2 ^ (k + 1) * 2 ^ (k + 1) = 4 * (r.num.natAbs * 2 ^ k * 2 ^ k) := by rw [Nat.pow_succ]; generalize 2 ^ k = p; generalize r.num.natAbs = R; grind
  unfold sc
  rw [e]
  generalize r.num.natAbs * 2 ^ k * 2 ^ k = X
  refine ⟨fun h => ?_, fun h => ?_⟩
  · rw [Nat.le_div_iff_mul_le hd] at h ⊢
    rw [Nat.mul_assoc] at h; omega
  · rw [Nat.div_lt_iff_lt_mul hd] at h ⊢
    rw [Nat.mul_assoc] at h; omega
theorem St2.fin {r : Rat} {j : Nat} {s l : Rat} (h : St2 r (j + 1) s l) (h0 : ¬ r.num < 0) (ht : ¬ 0 ≤ cmpQ s (dq j 1)) : l = rootLo r j := by
  obtain ⟨i, a, rfl, rfl, hd, h1, h2, h3⟩ := h.h
  rw [← dq_succ j 1, dq_le] at ht
  have hp := Nat.pow_pos (n := i) (show 0 < 2 by omega)
  have hi : i = 0 := by
    rcases Nat.eq_zero_or_pos i with e | e
    · exact e
    · have := Nat.pow_le_pow_right (show 0 < 2 by omega) (show 1 ≤ i by omega)
      omega
  subst hi
  obtain ⟨m, rfl⟩ := hd
  rw [show (2 : Nat) ^ (0 + 1) = 2 by rfl] at *
  have e1 : 2 * m * (2 * m) = 4 * (m * m) := by grind
  have e2 : (2 * m + 2) * (2 * m + 2) = 4 * ((m + 1) * (m + 1)) := by grind
  rw [e1] at h1
  rw [e2] at h2
  have := isq_of ((sc_succ r j m).1 h1) ((sc_succ r j m).2 h2)
  rw [dq_succ, dq, this, rootLo, if_neg h0]
theorem St2.bnd {r : Rat} {K : Nat} {s l : Rat} (h : St2 r K s l) {m : Nat} (hN : lt2 (sc r K) m) (hK : K ≤ m) : Bnd .rat (.n (m + 2)) s ∧ Bnd .rat (.n (m + 2)) l := by
  obtain ⟨i, a, rfl, rfl, hd, h1, h2, h3⟩ := h.h
  have h5 := Nat.pow_le_pow_right (show 0 < 2 by omega) hK
  refine ⟨dq_b ?_ (by omega), dq_b ?_ (by omega)⟩
  · unfold lt2 at *
    rw [show m + 2 = (m + 1) + 1 by omega, Nat.pow_succ, Nat.pow_succ]; omega
  · have : a ≤ sc r K := by
      rcases Nat.eq_zero_or_pos a with e | e
      · omega
      · have := Nat.le_mul_of_pos_left a e; omega
    exact lt2_mono (by omega) (lt2_le hN this)
structure Two (m : Int) (z : Int) (v : Rat) : Prop where
  h : v = dq (z - m).toNat 1
  hm : m ≤ z
  hz : z ≤ 0
theorem Two.start {m : Int} (hm : m ≤ 0) : Two m m (((1 : Int) : Rat) / ((1 : Int) : Rat)) := by
  refine ⟨?_, Int.le_refl _, hm⟩
  rw [show (m - m).toNat = 0 by omega]
  decide +kernel
theorem Two.step {m z : Int} {v : Rat} (h : Two m z v) (hz : z < 0) : Two m (z + 1) (v * (((1 : Int) : Rat) / ((2 : Int) : Rat))) := by
  have h1 := h.hm
  refine ⟨?_, by omega, by omega⟩
  rw [h.h, show (z + 1 - m).toNat = (z - m).toNat + 1 by omega, ← dq_half ((z - m).toNat + 1) 1, ← dq_succ (z - m).toNat 1]
theorem Two.bnd {m z : Int} {v : Rat} (h : Two m z v) (hm : -64 ≤ m) : Bnd .rat (.n 66) v := by
  have h1 := h.hz
  rw [h.h]; exact dq_b (lt2_one (by omega)) (by omega)
theorem Two.fin {m z : Int} {v : Rat} (h : Two m z v) (hz : ¬ z < 0) : v = dq (-m).toNat 1 := by
  have h1 := h.hz
  rw [h.h, show z - m = -m by omega]
def hiS (r : Rat) (j : Nat) : Rat := if r.num < 0 then 0 else if rootLo r j * rootLo r j = r then rootLo r j else rootLo r j + dq j 1
theorem hiS_b {r : Rat} {b : Bd} {j : Nat} (h : Bnd .rat b r) (hj : j ≤ 64) : Bnd .rat (.n (b.nb + 200)) (hiS r j) := by
  have h1 := rootLo_b h hj
  unfold hiS; split
  · exact zero_bn _
  · split
    · exact rat_le h1 (by omega)
    · exact rat_le (add_b h1 (dq_b (m := 65) (lt2_one (by omega)) (by omega))) (by omega)
theorem sc_b2 {r : Rat} {b k : Nat} (h : Bnd .rat (.n b) r) : lt2 (sc r k) (b + k + k) := lt2_le (lt2_up (lt2_up h.rat.1 (Nat.le_refl k)) (Nat.le_refl k)) (Nat.div_le_self _ _)
theorem hi_s0 {r : Rat} {k : Nat} (h : r.num < 0) : (0 : Rat) = hiS r k := (if_pos h).symm
theorem hiS_1 {r l : Rat} {j : Nat} (h0 : ¬ r.num < 0) (hl : l = rootLo r j) (he : l * l = r) : l = hiS r j := by
  unfold hiS; rw [if_neg h0, ← hl, if_pos he]
theorem hiS_2 {r l w : Rat} {j : Nat} (h0 : ¬ r.num < 0) (hl : l = rootLo r j) (he : ¬ l * l = r) (hw : w = dq j 1) : l + w = hiS r j := by
  unfold hiS; rw [if_neg h0, ← hl, if_neg he, hw]
theorem St2.go1 {r : Rat} {j : Nat} {s l w : Rat} (h : St2 r (j + 1) s l) (h0 : ¬ r.num < 0) (hw : w = dq j 1) (ht : 0 ≤ cmpQ s w) (hc : cmpQ ((l + s) * (l + s)) r ≤ 0) : St2 r (j + 1) (s * (((1 : Int) : Rat) / ((2 : Int) : Rat))) (l + s) := by
  subst hw; exact (h.go h0 ht).1 hc
theorem St2.go2 {r : Rat} {j : Nat} {s l w : Rat} (h : St2 r (j + 1) s l) (h0 : ¬ r.num < 0) (hw : w = dq j 1) (ht : 0 ≤ cmpQ s w) (hc : ¬ cmpQ ((l + s) * (l + s)) r ≤ 0) : St2 r (j + 1) (s * (((1 : Int) : Rat) / ((2 : Int) : Rat))) l := by
  subst hw; exact (h.go h0 ht).2.1 hc
theorem St2.go3 {r : Rat} {j : Nat} {s l w : Rat} (h : St2 r (j + 1) s l) (h0 : ¬ r.num < 0) (hw : w = dq j 1) (ht : 0 ≤ cmpQ s w) : numA (j + 1) (s * (((1 : Int) : Rat) / ((2 : Int) : Rat))) < numA (j + 1) s := by
  subst hw; exact (h.go h0 ht).2.2
theorem St2.fin' {r : Rat} {j : Nat} {s l w : Rat} (h : St2 r (j + 1) s l) (h0 : ¬ r.num < 0) (hw : w = dq j 1) (ht : ¬ 0 ≤ cmpQ s w) : l = rootLo r j := by subst hw; exact h.fin h0 ht
end Go.Proofs.YtcjgaaibflcdiaaGreat.Sx

namespace Go.Proofs.YtcjgaaibflcdiaaGreat.Sx
open Go Go.Proofs
set_option linter.unusedVariables false
set_option linter.unusedSimpArgs false
set_option maxRecDepth 20000
set_option maxHeartbeats 4000000
abbrev xtwo_R (b : List Bd) (m : Int) : WV := .c (.agg [.dt .rat (.n (66)) (dq (-m).toNat 1)])
theorem xtwo_ok (b : List Bd) (m : Int) (hx : Bnds [(.int .i64)] b m) (hp : ∀ c0 ∈ ([-64 ≤ m, m ≤ 0] : List Prop), c0) : (xtwo_R b m).ok := agg_ok (dq_b (lt2_one (by omega)) (by have := hp _ List.mem_cons_self; omega))
theorem xtwo_sig (m : Int) (hx : Bnds [(.int .i64)] [(.n 18446744073709551616)] m) (hp : ∀ c0 ∈ ([-64 ≤ m, m ≤ 0] : List Prop), c0) : Sig Tryz.prog 111 (argsE [(.int .i64)] m) (xtwo_R [(.n 18446744073709551616)] m).exp := by
  have hx0 : Int.natAbs m ≤ 18446744073709551616 := hx
  have hp0 : -64 ≤ m := hp _ (List.mem_cons_self)
  have hp1 : m ≤ 0 := hp _ (List.mem_cons_of_mem _ (List.mem_cons_self))
  exact sigW hmix Tryz.func111 rfl rfl (by decide) (n := 30) (G := [(32, .c ymul_c), (81, .c ymake_c)]) hx rfl rfl (xtwo_ok _ m hx hp) (.cond (.dead) (.loop [.s 0 (.int .i64) (.n 64), .r 3 .rat (.n 66)] (fun ((z, v) : Int × Rat) => Two m z v) (fun ((z, v) : Int × Rat) => (-z).toNat) (fun ((z, v) : Int × Rat) => .nil))) (kcast (by kernel_rfl) (And.intro (fun (h1 : 0 < m) => (by omega : False)) (fun (h2 : ¬ (0 < m)) => I (show Int.natAbs m ≤ 64 by omega : Bnd (.int .i64) (.n 64) m) (I (Two.start hp1 : Two m m (((1 : Int) : Rat) / ((1 : Int) : Rat))) (fun (z : Int) (v : Rat) (hb3 : HB [.s 0 (.int .i64) (.n 64), .r 3 .rat (.n 66)] (z, v)) (hC : Two m z v) => have hv6 := (show Int.natAbs z ≤ 64 from hb3.1); have hCm := hC.hm; have hCz := hC.hz; And.intro (fun (h4 : z < 0) => I (show Int.natAbs (z + 1) ≤ 64 by omega : Bnd (.int .i64) (.n 64) (z + 1)) (I ((hC.step (by omega)).bnd hp0 : Bnd .rat (.n 66) (v * (((1 : Int) : Rat) / ((2 : Int) : Rat)))) (And.intro (hC.step (by omega) : Two m (z + 1) (v * (((1 : Int) : Rat) / ((2 : Int) : Rat)))) (by omega : (-(z + 1)).toNat < (-z).toNat)))) (fun (h5 : ¬ (z < 0)) => (hC.fin (by omega) : v = dq (-m).toNat 1)))))))
def xtwo_c : Ctr Tryz.prog := ⟨111, [(.int .i64)], [(.n 18446744073709551616)], fun z => [-64 ≤ z, z ≤ 0], fun b z => xtwo_R b z, fun z hx hp => xtwo_sig z hx hp, fun _ _ => rfl, fun b z hx hp => xtwo_ok b z hx hp⟩
abbrev xRoot_R (b : List Bd) (r : Rat) (k : Int) : WV := .tup [.agg [.dt (.pr .rat .rat) (.p (.n ((b0 b).nb + 200)) (.n ((b0 b).nb + 200))) (rootLo r k.toNat, hiS r k.toNat)], .one (.dt .bool .u (decide (¬ r.num < 0)))]
theorem xRoot_ok (b : List Bd) (r : Rat) (k : Int) (hx : Bnds [.rat, (.int .i64)] b (r, k)) (hp : ∀ c0 ∈ ([0 ≤ k, k ≤ 64] : List Prop), c0) : (xRoot_R b r k).ok := tup_cons (agg_ok ⟨rat_le (rootLo_b (Bnds.h2 hx).1 (by have := hp _ (List.mem_cons_of_mem _ List.mem_cons_self); omega)) (by omega), hiS_b (Bnds.h2 hx).1 (by have := hp _ (List.mem_cons_of_mem _ List.mem_cons_self); omega)⟩) (tup_cons (one_ok trivial rfl) tup_nil)
theorem xRoot_sig (r : Rat) (k : Int) (hx : Bnds [.rat, (.int .i64)] [(.n 15000), (.n 9223372036854775808)] (r, k)) (hp : ∀ c0 ∈ ([0 ≤ k, k ≤ 64] : List Prop), c0) : Sig Tryz.prog 61 (argsE [.rat, (.int .i64)] (r, k)) (xRoot_R [(.n 15000), (.n 9223372036854775808)] r k).exp := by
  have hx0 : Bnd .rat (.n 15000) r := hx.1
  have hx1 : Int.natAbs k ≤ 9223372036854775808 := hx.2
  have hp0 : 0 ≤ k := hp _ (List.mem_cons_self)
  have hp1 : k ≤ 64 := hp _ (List.mem_cons_of_mem _ (List.mem_cons_self))
  exact sigW hmix Tryz.func61 rfl rfl (by decide) (n := 72) (G := [(17, .c ysame_c), (25, .c ycmp_c), (29, .c ysign_c), (31, .c yint_c), (32, .c ymul_c), (62, .c yadd_c), (81, .c ymake_c), (111, .c xtwo_c)]) hx rfl rfl (xRoot_ok _ r k hx hp) (.cond (.nil) (.cond (.dead) (.cond (.dead) (.pre 3 (.bd 1 (.n 64)) (.loop [.r 6 .rat (.n 15142)] (fun (s : Rat) => St1 r (k.toNat + 1) s) (fun (s : Rat) => mu1 r (k.toNat + 1) s) (fun (s : Rat) => .cond (.nil) (.loop [.r 6 .rat (.n 15142), .r 10 .rat (.n 15142)] (fun ((s2, l) : Rat × Rat) => St2 r (k.toNat + 1) s2 l) (fun ((s2, l) : Rat × Rat) => numA (k.toNat + 1) s2) (fun ((s2, l) : Rat × Rat) => .nil)))))))) (kcast (by kernel_rfl) (And.intro (fun (h1 : sgnQ r < 0) => And.intro (Prod.ext (lo_neg (sgn_lt.1 h1)) (hi_s0 (sgn_lt.1 h1)) : (0, 0) = (rootLo r k.toNat, hiS r k.toNat)) ((decide_eq_false (fun e => e (sgn_lt.1 h1))).symm : false = decide (¬ r.num < 0))) (fun (h2 : ¬ (sgnQ r < 0)) => And.intro (fun (h3 : k < 0) => (by omega : False)) (fun (h4 : ¬ (k < 0)) => And.intro (fun (h5 : 64 < k) => (by omega : False)) (fun (h6 : ¬ (64 < k)) => I (show Int.natAbs k ≤ 64 by omega : Bnd (.int .i64) (.n 64) k) (have hnn := mt sgn_lt.2 h2; have hN := (lt2_mono (show 15000 + (k.toNat + 1) + (k.toNat + 1) ≤ 15140 by omega) (sc_b2 hx.1) : lt2 (sc r (k.toNat + 1)) 15140); have hw := (show dq (-(-k)).toNat 1 = dq k.toNat 1 from by rw [Int.neg_neg]); I (St1.start _ _ : St1 r (k.toNat + 1) ((1 : Int) : Rat)) (fun (s : Rat) (hb7 : HB [.r 6 .rat (.n 15142)] s) (hC : St1 r (k.toNat + 1) s) => And.intro (fun (h8 : cmpQ (s * s) r ≤ 0) => have hG := hC.step hnn h8; I (hG.1.bnd hN (by omega) : Bnd .rat (.n 15142) (s + s)) (And.intro (hG.1 : St1 r (k.toNat + 1) (s + s)) (hG.2 : mu1 r (k.toNat + 1) (s + s) < mu1 r (k.toNat + 1) s))) (fun (h9 : ¬ (cmpQ (s * s) r ≤ 0)) => I (by omega : -64 ≤ -k) (I (by omega : -k ≤ 0) (I (St2.start hC hnn h9 : St2 r (k.toNat + 1) s 0) (fun (s2 : Rat) (l : Rat) (hb10 : HB [.r 6 .rat (.n 15142), .r 10 .rat (.n 15142)] (s2, l)) (hD : St2 r (k.toNat + 1) s2 l) => And.intro (fun (h11 : 0 ≤ cmpQ s2 (dq (-(-k)).toNat 1)) => And.intro (fun (h12 : cmpQ ((l + s2) * (l + s2)) r ≤ 0) => have hG := hD.go1 hnn hw h11 h12; have hM := hD.go3 hnn hw h11; I ((hG.bnd hN (by omega)).1 : Bnd .rat (.n 15142) (s2 * (((1 : Int) : Rat) / ((2 : Int) : Rat)))) (I ((hG.bnd hN (by omega)).2 : Bnd .rat (.n 15142) (l + s2)) (And.intro (hG : St2 r (k.toNat + 1) (s2 * (((1 : Int) : Rat) / ((2 : Int) : Rat))) (l + s2)) (hM : numA (k.toNat + 1) (s2 * (((1 : Int) : Rat) / ((2 : Int) : Rat))) < numA (k.toNat + 1) s2)))) (fun (h13 : ¬ (cmpQ ((l + s2) * (l + s2)) r ≤ 0)) => have hG := hD.go2 hnn hw h11 h13; have hM := hD.go3 hnn hw h11; I ((hG.bnd hN (by omega)).1 : Bnd .rat (.n 15142) (s2 * (((1 : Int) : Rat) / ((2 : Int) : Rat)))) (And.intro (hG : St2 r (k.toNat + 1) (s2 * (((1 : Int) : Rat) / ((2 : Int) : Rat))) l) (hM : numA (k.toNat + 1) (s2 * (((1 : Int) : Rat) / ((2 : Int) : Rat))) < numA (k.toNat + 1) s2)))) (fun (h14 : ¬ (0 ≤ cmpQ s2 (dq (-(-k)).toNat 1))) => And.intro (fun (h15 : decide ((l * l) = r) = true) => And.intro (Prod.ext (hD.fin' hnn hw h14) (hiS_1 hnn (hD.fin' hnn hw h14) (yd h15)) : (l, l) = (rootLo r k.toNat, hiS r k.toNat)) ((decide_eq_true hnn).symm : true = decide (¬ r.num < 0))) (fun (h16 : ¬ (decide ((l * l) = r) = true)) => And.intro (Prod.ext (hD.fin' hnn hw h14) (hiS_2 hnn (hD.fin' hnn hw h14) (yd' h16) hw) : (l, l + (dq (-(-k)).toNat 1)) = (rootLo r k.toNat, hiS r k.toNat)) ((decide_eq_true hnn).symm : true = decide (¬ r.num < 0)))))))))))))))
def xRoot_c : Ctr Tryz.prog := ⟨61, [.rat, (.int .i64)], [(.n 15000), (.n 9223372036854775808)], fun z => [0 ≤ z.2, z.2 ≤ 64], fun b z => xRoot_R b z.1 z.2, fun z hx hp => xRoot_sig z.1 z.2 hx hp, fun _ _ => rfl, fun b z hx hp => xRoot_ok b z.1 z.2 hx hp⟩
end Go.Proofs.YtcjgaaibflcdiaaGreat.Sx

namespace Go.Proofs.YtcjgaaibflcdiaaGreat.Sx
open Go
set_option linter.unusedVariables false
def xL (f : Four4) (m : Rat) (p : List Rat) : List Rat := subL p (scaleL m f.2.2.2)
def sumL (f : Four4) (m : V3) : List Rat := addL (addL (mulL (xL f m.1 f.1) (xL f m.1 f.1)) (mulL (xL f m.2.1 f.2.1) (xL f m.2.1 f.2.1))) (mulL (xL f m.2.2 f.2.2.1) (xL f m.2.2 f.2.2.1))
def wtL (f : Four4) : List Rat := mulL f.2.2.2 f.2.2.2
def qq (f : Four4) (m : V3) (i : Nat) : Rat := (sumL f m).getD i 0 / (wtL f).getD i 0
def reachF (f : Four4) (m : V3) : Rat × Rat :=
  (minQ (minQ (minQ (minQ (minQ (qq f m 0) (qq f m 0)) (qq f m 1)) (qq f m 2)) (qq f m 3)) (qq f m 4), maxQ (maxQ (maxQ (maxQ (maxQ (qq f m 0) (qq f m 0)) (qq f m 1)) (qq f m 2)) (qq f m 3)) (qq f m 4))
def reachV (c : Curve) (m : V3) : Rat × Rat := reachF (numsV c.2.2) m
abbrev bPole (m : Nat) : Bd := .p (bV3 m) (.n m)
abbrev bCurve (m : Nat) : Bd := .p (.n 6) (.p (.s 6 (.n m)) (.s 3 (bPole m)))
theorem sl_le {l : List Rat} {k a c : Nat} (h : Bnd (.sl .rat) (.s k (.n a)) l) (hm : a ≤ c) : Bnd (.sl .rat) (.s k (.n c)) l := ⟨h.1, fun v hv => rat_le (h.2 v hv) hm⟩
theorem four_b {f : Four4} {k a : Nat} (h : Bnd tFour4 (bFour4 k a) f) : Bnd (.sl .rat) (.s k (.n a)) f.1 ∧ Bnd (.sl .rat) (.s k (.n a)) f.2.1 ∧ Bnd (.sl .rat) (.s k (.n a)) f.2.2.1 ∧ Bnd (.sl .rat) (.s k (.n a)) f.2.2.2 := h
theorem xsq_b {w p : List Rat} {m : Rat} {a : Nat} (hp : Bnd (.sl .rat) (.s 3 (.n a)) p) (hw : Bnd (.sl .rat) (.s 3 (.n a)) w) (hm : Bnd .rat (.n 4000) m) : Bnd (.sl .rat) (.s 5 (.n (9 * (4 * a + 8007) + 3))) (mulL (subL p (scaleL m w)) (subL p (scaleL m w))) := by
  have h1 := subL_b hp (scaleL_b hm hw)
  have h2 := mulL_b h1 h1
  refine sl_le h2 ?_
  simp only [Bd.mx]; omega
theorem reachF_b {f : Four4} {m : V3} (hf : Bnd tFour4 (bFour4 3 8000) f) (hm : Bnd tV3 (bV3 4000) m) : Bnd (.pr .rat .rat) (.p (.n 2000000) (.n 2000000)) (reachF f m) := by
  obtain ⟨f1, f2, f3, f4⟩ := four_b hf
  have s1 := xsq_b f1 f4 hm.1
  have s2 := xsq_b f2 f4 hm.2.1
  have s3 := xsq_b f3 f4 hm.2.2
  have h := addL_b (addL_b s1 s2) s3
  have hw := mulL_b f4 f4
  have key : ∀ i, Bnd .rat (.n 2000000) (qq f m i) := fun i => by
    refine rat_le (div_b (getD_nb h i) (getD_nb hw i)) ?_
    simp only [Bd.mx]; omega
  have mn : ∀ {x y : Rat}, Bnd .rat (.n 2000000) x → Bnd .rat (.n 2000000) y → Bnd .rat (.n 2000000) (minQ x y) := fun hx hy => by unfold minQ; split <;> assumption
  have mxx : ∀ {x y : Rat}, Bnd .rat (.n 2000000) x → Bnd .rat (.n 2000000) y → Bnd .rat (.n 2000000) (maxQ x y) := fun hx hy => by unfold maxQ; split <;> assumption
  exact ⟨mn (mn (mn (mn (mn (key 0) (key 0)) (key 1)) (key 2)) (key 3)) (key 4), mxx (mxx (mxx (mxx (mxx (key 0) (key 0)) (key 1)) (key 2)) (key 3)) (key 4)⟩
theorem reachV_b {c : Curve} {m : V3} (hc : Bnd tCurve (bCurve 4000) c) (hl : c.2.2.length = 3) (hm : Bnd tV3 (bV3 4000) m) : Bnd (.pr .rat .rat) (.p (.n 2000000) (.n 2000000)) (reachV c m) := by
  refine reachF_b ?_ hm
  have h := numsV_b hc hl
  have e : 2 * (bCurve 4000).mx = 8000 := by decide
  rwa [e] at h
theorem nums_len {l : List Pole} (h : l.length = 3) : (numsV l).1.length = 3 ∧ (numsV l).2.1.length = 3 ∧ (numsV l).2.2.1.length = 3 ∧ (numsV l).2.2.2.length = 3 := by simp [numsV, h]
theorem x_len {p w : List Rat} {m : Rat} (hp : p.length = 3) (hw : w.length = 3) : (subL p (scaleL m w)).length = 3 := by rw [subL_len (by rw [scaleL_len]; omega), hp]
abbrev ArcR : Type := Curve × V3 × (Rat × Rat) × Int
def zeroA (e : Int) : ArcR := ((0, [], []), (0, 0, 0), (0, 0), e)
abbrev arcU (d e : V3) (k : Int) : Rat := rootLo (dotQ d d / dotQ e e) k.toNat
abbrev arcF (d e : V3) (k : Int) : V3 := scaleV (arcU d e k) e
abbrev arcDF (d e : V3) (k : Int) : Rat := dotQ d (arcF d e k)
abbrev arcW (d e : V3) (k : Int) : Rat := rootLo ((dotQ d d - arcDF d e k) / (dotQ d d + dotQ d d)) k.toNat
abbrev arcM (d e : V3) (k : Int) : Rat := dotQ d d / (dotQ d d + arcDF d e k)
abbrev arcCen (p d e : V3) (k : Int) : V3 := addV p (scaleV (arcM d e k) (addV d (arcF d e k)))
abbrev arcCv (p d e : V3) (k : Int) : Curve := (2, [0, 0, 0, ((1 : Int) : Rat), ((1 : Int) : Rat), ((1 : Int) : Rat)], [(addV p d, ((1 : Int) : Rat)), (p, arcW d e k), (addV p (arcF d e k), ((1 : Int) : Rat))])
def arcR (p d e : V3) (k : Int) : ArcR :=
  if k < 0 ∨ 64 < k then zeroA 1 else
  if crossQ d e = (0, 0, 0) then zeroA 9 else
  if sgnQ (arcU d e k) = 0 ∨ sgnQ (arcW d e k) = 0 then zeroA 6 else
  if quoC (dotQ d d + arcDF d e k) ≠ 0 then zeroA 7 else
  (arcCv p d e k, arcCen p d e k, reachV (arcCv p d e k) (arcCen p d e k), 0)
section
variable {p d e : V3} {k : Int}
theorem arc_1 (h : k < 0 ∨ 64 < k) : zeroA 1 = arcR p d e k := by unfold arcR; rw [if_pos h]
theorem arc_2 (h : ¬ (k < 0 ∨ 64 < k)) (h2 : crossQ d e = (0, 0, 0)) : zeroA 9 = arcR p d e k := by unfold arcR; rw [if_neg h, if_pos h2]
theorem arc_3 (h : ¬ (k < 0 ∨ 64 < k)) (h2 : ¬ crossQ d e = (0, 0, 0)) (h3 : sgnQ (arcU d e k) = 0 ∨ sgnQ (arcW d e k) = 0) : zeroA 6 = arcR p d e k := by unfold arcR; rw [if_neg h, if_neg h2, if_pos h3]
theorem arc_4 (h : ¬ (k < 0 ∨ 64 < k)) (h2 : ¬ crossQ d e = (0, 0, 0)) (h3 : ¬ (sgnQ (arcU d e k) = 0 ∨ sgnQ (arcW d e k) = 0)) (h4 : quoC (dotQ d d + arcDF d e k) ≠ 0) : zeroA 7 = arcR p d e k := by unfold arcR; rw [if_neg h, if_neg h2, if_neg h3, if_pos h4]
theorem arc_5 (h : ¬ (k < 0 ∨ 64 < k)) (h2 : ¬ crossQ d e = (0, 0, 0)) (h3 : ¬ (sgnQ (arcU d e k) = 0 ∨ sgnQ (arcW d e k) = 0)) (h4 : ¬ quoC (dotQ d d + arcDF d e k) ≠ 0) :
    (arcCv p d e k, arcCen p d e k, reachV (arcCv p d e k) (arcCen p d e k), (0 : Int)) = arcR p d e k := by unfold arcR; rw [if_neg h, if_neg h2, if_neg h3, if_neg h4]
end
theorem two_x (x : Rat) : ((2 : Int) : Rat) * x = x + x := by
  have : ((2 : Int) : Rat) = 2 := rfl
  rw [this]; grind
theorem root_neg {r : Rat} {k : Nat} (h : r.num < 0) : sgnQ (rootLo r k) = 0 := by rw [← lo_neg h]; rfl
theorem one_b (m : Nat) (h : 1 ≤ m) : Bnd .rat (.n m) ((1 : Int) : Rat) := rat_le (a := 1) ⟨by unfold lt2; decide, by unfold le2; decide⟩ h
theorem v3_le {x : V3} {a c : Nat} (h : Bnd tV3 (bV3 a) x) (hm : a ≤ c) : Bnd tV3 (bV3 c) x := ⟨rat_le h.1 hm, rat_le h.2.1 hm, rat_le h.2.2 hm⟩
structure ArcB (p d e : V3) (k : Int) : Prop where
  w : Bnd .rat (.n 4000) (arcW d e k)
  f : Bnd tV3 (bV3 400) (arcF d e k)
  c : Bnd tV3 (bV3 4000) (arcCen p d e k)
  cv : Bnd tCurve (bCurve 4000) (arcCv p d e k)
theorem arc_b {p d e : V3} {k : Int} (hp : Bnd tV3 (bV3 16) p) (hd : Bnd tV3 (bV3 16) d) (he : Bnd tV3 (bV3 16) e) (hk : ¬ (k < 0 ∨ 64 < k)) : ArcB p d e k := by
  have hk2 : k.toNat ≤ 64 := by omega
  have m16 : (bV3 16).mx = 16 := by decide
  have hdd : Bnd .rat (.n 98) (dotQ d d) := rat_le (dotQ_b hd hd) (by rw [m16]; omega)
  have hee : Bnd .rat (.n 98) (dotQ e e) := rat_le (dotQ_b he he) (by rw [m16]; omega)
  have hu : Bnd .rat (.n 326) (arcU d e k) := rat_le (rootLo_b (div_b hdd hee) hk2) (by simp only [Bd.nb]; omega)
  have hf : Bnd tV3 (bV3 400) (arcF d e k) := v3_le (scaleV_b hu he) (by rw [m16]; simp only [Bd.mx]; omega)
  have m400 : (bV3 400).mx = 400 := by decide
  have hdf : Bnd .rat (.n 1300) (arcDF d e k) := rat_le (dotQ_b hd hf) (by rw [m16, m400]; omega)
  have hw : Bnd .rat (.n 4000) (arcW d e k) := rat_le (rootLo_b (div_b (sub_b hdd hdf) (add_b hdd hdd)) hk2) (by simp only [Bd.nb]; omega)
  have hm : Bnd .rat (.n 1600) (arcM d e k) := rat_le (div_b hdd (add_b hdd hdf)) (by omega)
  have hdf2 := addV_b hd hf
  have hc : Bnd tV3 (bV3 4000) (arcCen p d e k) := v3_le (addV_b hp (scaleV_b hm hdf2)) (by simp only [Bd.mx]; omega)
  have hpd : Bnd tV3 (bV3 4000) (addV p d) := v3_le (addV_b hp hd) (by rw [m16]; omega)
  have hpf : Bnd tV3 (bV3 4000) (addV p (arcF d e k)) := v3_le (addV_b hp hf) (by rw [m16, m400]; omega)
  refine ⟨hw, hf, hc, ⟨by show Int.natAbs 2 ≤ 6; decide, ⟨Nat.le_refl 6, fun v hv => ?_⟩, Nat.le_refl 3, fun v hv => ?_⟩⟩
  · simp only [List.mem_cons, List.not_mem_nil, or_false] at hv
    rcases hv with rfl | rfl | rfl | rfl | rfl | rfl <;> first | exact zero_bn _ | exact one_b _ (by omega)
  · simp only [List.mem_cons, List.not_mem_nil, or_false] at hv
    rcases hv with rfl | rfl | rfl
    · exact ⟨hpd, one_b _ (by omega)⟩
    · exact ⟨v3_le hp (by omega), hw⟩
    · exact ⟨hpf, one_b _ (by omega)⟩
theorem arcR_b {p d e : V3} {k : Int} (hp : Bnd tV3 (bV3 16) p) (hd : Bnd tV3 (bV3 16) d) (he : Bnd tV3 (bV3 16) e) :
    Bnd tCurve (bCurve 4000) (arcR p d e k).1 ∧ Bnd tV3 (bV3 4000) (arcR p d e k).2.1 ∧ Bnd (.pr .rat .rat) (.p (.n 2000000) (.n 2000000)) (arcR p d e k).2.2.1 ∧ (arcR p d e k).2.2.2.natAbs ≤ 16 := by
  have z : ∀ c : Int, c.natAbs ≤ 16 → Bnd tCurve (bCurve 4000) (zeroA c).1 ∧ Bnd tV3 (bV3 4000) (zeroA c).2.1 ∧ Bnd (.pr .rat .rat) (.p (.n 2000000) (.n 2000000)) (zeroA c).2.2.1 ∧ (zeroA c).2.2.2.natAbs ≤ 16 := fun c hc =>
    ⟨⟨by show Int.natAbs 0 ≤ 6; decide, ⟨by show 0 ≤ 6; omega, fun v hv => by simp [zeroA] at hv⟩, by show 0 ≤ 3; omega, fun v hv => by simp [zeroA] at hv⟩, ⟨zero_bn _, zero_bn _, zero_bn _⟩, ⟨zero_bn _, zero_bn _⟩, hc⟩
  by_cases h : k < 0 ∨ 64 < k
  · rw [← arc_1 h]; exact z 1 (by decide)
  · by_cases h2 : crossQ d e = (0, 0, 0)
    · rw [← arc_2 h h2]; exact z 9 (by decide)
    · by_cases h3 : sgnQ (arcU d e k) = 0 ∨ sgnQ (arcW d e k) = 0
      · rw [← arc_3 h h2 h3]; exact z 6 (by decide)
      · by_cases h4 : quoC (dotQ d d + arcDF d e k) ≠ 0
        · rw [← arc_4 h h2 h3 h4]; exact z 7 (by decide)
        · rw [← arc_5 h h2 h3 h4]
          have b := arc_b hp hd he h
          exact ⟨b.cv, b.c, reachV_b b.cv rfl b.c, by show Int.natAbs 0 ≤ 16; decide⟩
theorem zeroA_b : Bnd tCurve (bCurve 4000) ((0, [], []) : Curve) ∧ Bnd tV3 (bV3 4000) ((0, 0, 0) : V3) ∧ Bnd (.pr .rat .rat) (.p (.n 2000000) (.n 2000000)) ((0, 0) : Rat × Rat) :=
  ⟨⟨by show Int.natAbs 0 ≤ 6; decide, ⟨by show 0 ≤ 6; omega, fun v hv => by cases hv⟩, by show 0 ≤ 3; omega, fun v hv => by cases hv⟩, ⟨zero_bn _, zero_bn _, zero_bn _⟩, ⟨zero_bn _, zero_bn _⟩⟩
end Go.Proofs.YtcjgaaibflcdiaaGreat.Sx

namespace Go.Proofs.YtcjgaaibflcdiaaGreat.Sx
open Go Go.Proofs
set_option linter.unusedVariables false
set_option linter.unusedSimpArgs false
set_option maxRecDepth 20000
set_option maxHeartbeats 4000000
abbrev ablroot_R (b : List Bd) (x : Rat) (y : Rat) (k : Int) : WV := .c (.agg [.dt .rat (.n ((b0 b).nb + (b1 b).nb + 130)) (rootLo (x / y) k.toNat)])
theorem ablroot_ok (b : List Bd) (x : Rat) (y : Rat) (k : Int) (hx : Bnds [.rat, .rat, (.int .i64)] b (x, y, k)) (hp : ∀ c0 ∈ ([0 ≤ k, k ≤ 64] : List Prop), c0) : (ablroot_R b x y k).ok := agg_ok (rat_le (rootLo_b (b := .n ((b0 b).nb + (b1 b).nb)) (quo_bnd (Bnds.h3 hx).1 (Bnds.h3 hx).2.1) (by have := hp _ (List.mem_cons_of_mem _ List.mem_cons_self); omega)) (Nat.le_refl _))
theorem ablroot_sig (x : Rat) (y : Rat) (k : Int) (hx : Bnds [.rat, .rat, (.int .i64)] [(.n 7000), (.n 7000), (.n 9223372036854775808)] (x, y, k)) (hp : ∀ c0 ∈ ([0 ≤ k, k ≤ 64] : List Prop), c0) : Sig Tryz.prog 49 (argsE [.rat, .rat, (.int .i64)] (x, y, k)) (ablroot_R [(.n 7000), (.n 7000), (.n 9223372036854775808)] x y k).exp := by
  have hx0 : Bnd .rat (.n 7000) x := hx.1
  have hx1 : Bnd .rat (.n 7000) y := hx.2.1
  have hx2 : Int.natAbs k ≤ 9223372036854775808 := hx.2.2
  have hp0 : 0 ≤ k := hp _ (List.mem_cons_self)
  have hp1 : k ≤ 64 := hp _ (List.mem_cons_of_mem _ (List.mem_cons_self))
  exact sigW hmix Tryz.func49 rfl rfl (by decide) (n := 25) (G := [(54, .c rquo_c), (90, .c mRoot_c)]) hx rfl rfl (ablroot_ok _ x y k hx hp) (.nil) (kcast (by kernel_rfl) (I (by omega : 0 ≤ k) (I (by omega : k ≤ 64) ((rfl : rootLo (x / y) k.toNat = rootLo (x / y) k.toNat)))))
def ablroot_c : Ctr Tryz.prog := ⟨49, [.rat, .rat, (.int .i64)], [(.n 7000), (.n 7000), (.n 9223372036854775808)], fun z => [0 ≤ z.2.2, z.2.2 ≤ 64], fun b z => ablroot_R b z.1 z.2.1 z.2.2, fun z hx hp => ablroot_sig z.1 z.2.1 z.2.2 hx hp, fun _ _ => rfl, fun b z hx hp => ablroot_ok b z.1 z.2.1 z.2.2 hx hp⟩
abbrev aaround_R (b : List Bd) (c : Int × List Rat × List ((Rat × Rat × Rat) × Rat)) (m : Rat × Rat × Rat) : WV := .c (.agg [.dt (.pr .rat .rat) (.p (.n 2000000) (.n 2000000)) (reachV c m)])
theorem aaround_ok (b : List Bd) (c : Int × List Rat × List ((Rat × Rat × Rat) × Rat)) (m : Rat × Rat × Rat) (hx : Bnds [(.pr (.int .i64) (.pr (.sl .rat) (.sl (.pr (.pr .rat (.pr .rat .rat)) .rat)))), (.pr .rat (.pr .rat .rat))] b (c, m)) (hp : ∀ c0 ∈ ([c.2.2.length = 3, Bnd tCurve (bCurve 4000) c, Bnd tV3 (bV3 4000) m] : List Prop), c0) : (aaround_R b c m).ok := agg_ok (reachV_b (hp _ (List.mem_cons_of_mem _ List.mem_cons_self)) (hp _ List.mem_cons_self) (hp _ (List.mem_cons_of_mem _ (List.mem_cons_of_mem _ List.mem_cons_self))))
theorem aaround_sig (c : Int × List Rat × List ((Rat × Rat × Rat) × Rat)) (m : Rat × Rat × Rat) (hx : Bnds [(.pr (.int .i64) (.pr (.sl .rat) (.sl (.pr (.pr .rat (.pr .rat .rat)) .rat)))), (.pr .rat (.pr .rat .rat))] [(.p (.n 6) (.p (.s 6 (.n 4000)) (.s 3 (.p (.p (.n 4000) (.p (.n 4000) (.n 4000))) (.n 4000))))), (.p (.n 4000) (.p (.n 4000) (.n 4000)))] (c, m)) (hp : ∀ c0 ∈ ([c.2.2.length = 3, Bnd tCurve (bCurve 4000) c, Bnd tV3 (bV3 4000) m] : List Prop), c0) : Sig Tryz.prog 59 (argsE [(.pr (.int .i64) (.pr (.sl .rat) (.sl (.pr (.pr .rat (.pr .rat .rat)) .rat)))), (.pr .rat (.pr .rat .rat))] (c, m)) (aaround_R [(.p (.n 6) (.p (.s 6 (.n 4000)) (.s 3 (.p (.p (.n 4000) (.p (.n 4000) (.n 4000))) (.n 4000))))), (.p (.n 4000) (.p (.n 4000) (.n 4000)))] c m).exp := by
  have hp0 : c.2.2.length = 3 := hp _ (List.mem_cons_self)
  have hp1 : Bnd tCurve (bCurve 4000) c := hp _ (List.mem_cons_of_mem _ (List.mem_cons_self))
  have hp2 : Bnd tV3 (bV3 4000) m := hp _ (List.mem_cons_of_mem _ (List.mem_cons_of_mem _ (List.mem_cons_self)))
  exact sigW hmix Tryz.func59 rfl rfl (by decide) (n := 92) (G := [(54, .c rquo_c), (103, .c orat_c), (104, .c bnums_c), (105, .c bsub_c), (106, .c bscale_c), (107, .c bmul_c), (108, .c badd_c), (109, .c rmin_c), (110, .c rmax_c)]) hx rfl rfl (aaround_ok _ c m hx hp) ((fun (F : List Rat × List Rat × List Rat × List Rat) => (fun (x0 : List Rat) => (fun (x1 : List Rat) => (fun (x2 : List Rat) => .cond (.cond (.cond (.cond (.cond (.cond (.dead) (.nil)) (.dead)) (.dead)) (.dead)) (.dead)) (.dead)) (subL F.2.2.1 (scaleL m.2.2 F.2.2.2))) (subL F.2.1 (scaleL m.2.1 F.2.2.2))) (subL F.1 (scaleL m.1 F.2.2.2))) (numsV c.2.2)) (kcast (by kernel_rfl) (I (by omega : c.2.2.length = 3) ((fun (F : List Rat × List Rat × List Rat × List Rat) (hF : F = numsV c.2.2) => have hFl := (show F.1.length = 3 ∧ F.2.1.length = 3 ∧ F.2.2.1.length = 3 ∧ F.2.2.2.length = 3 from by rw [hF]; exact nums_len hp0); have hF1 := hFl.1; have hF2 := hFl.2.1; have hF3 := hFl.2.2.1; have hF4 := hFl.2.2.2; I (by rw [scaleL_len]; omega : F.1.length = (scaleL m.1 F.2.2.2).length) ((fun (x0 : List Rat) (hx_0 : x0 = subL F.1 (scaleL m.1 F.2.2.2)) => have hlx0 := (show x0.length = 3 from by rw [hx_0]; exact x_len hF1 hF4); I (by omega : x0.length = 3) (I (by omega : x0.length = 3) (I (by rw [scaleL_len]; omega : F.2.1.length = (scaleL m.2.1 F.2.2.2).length) ((fun (x1 : List Rat) (hx_1 : x1 = subL F.2.1 (scaleL m.2.1 F.2.2.2)) => have hlx1 := (show x1.length = 3 from by rw [hx_1]; exact x_len hF2 hF4); I (by omega : x1.length = 3) (I (by omega : x1.length = 3) (I (by first | rw [mulL_len, mulL_len] | (rw [addL_len (by rw [mulL_len, mulL_len]), mulL_len, mulL_len]) : (mulL x0 x0).length = (mulL x1 x1).length) (I (by rw [scaleL_len]; omega : F.2.2.1.length = (scaleL m.2.2 F.2.2.2).length) ((fun (x2 : List Rat) (hx_2 : x2 = subL F.2.2.1 (scaleL m.2.2 F.2.2.2)) => have hlx2 := (show x2.length = 3 from by rw [hx_2]; exact x_len hF3 hF4); I (by omega : x2.length = 3) (I (by omega : x2.length = 3) (I (by first | rw [mulL_len, mulL_len] | (rw [addL_len (by rw [mulL_len, mulL_len]), mulL_len, mulL_len]) : (addL (mulL x0 x0) (mulL x1 x1)).length = (mulL x2 x2).length) (I (by omega : F.2.2.2.length = 3) (I (by omega : F.2.2.2.length = 3) (have hl5 := (show (addL (addL (mulL x0 x0) (mulL x1 x1)) (mulL x2 x2)).length = 5 from by rw [addL_len (by rw [addL_len (by rw [mulL_len, mulL_len]), mulL_len, mulL_len]), addL_len (by rw [mulL_len, mulL_len]), mulL_len]); have hw5 := (mulL_len F.2.2.2 F.2.2.2); And.intro (fun (h1 : 0 < (addL (addL (mulL x0 x0) (mulL x1 x1)) (mulL x2 x2)).length) => I (by omega : 0 < (addL (addL (mulL x0 x0) (mulL x1 x1)) (mulL x2 x2)).length) (I (by omega : 0 < (mulL F.2.2.2 F.2.2.2).length) (And.intro (fun (h2 : 1 < (addL (addL (mulL x0 x0) (mulL x1 x1)) (mulL x2 x2)).length) => I (by omega : 1 < (addL (addL (mulL x0 x0) (mulL x1 x1)) (mulL x2 x2)).length) (I (by omega : 1 < (mulL F.2.2.2 F.2.2.2).length) (And.intro (fun (h3 : 2 < (addL (addL (mulL x0 x0) (mulL x1 x1)) (mulL x2 x2)).length) => I (by omega : 2 < (addL (addL (mulL x0 x0) (mulL x1 x1)) (mulL x2 x2)).length) (I (by omega : 2 < (mulL F.2.2.2 F.2.2.2).length) (And.intro (fun (h4 : 3 < (addL (addL (mulL x0 x0) (mulL x1 x1)) (mulL x2 x2)).length) => I (by omega : 3 < (addL (addL (mulL x0 x0) (mulL x1 x1)) (mulL x2 x2)).length) (I (by omega : 3 < (mulL F.2.2.2 F.2.2.2).length) (And.intro (fun (h5 : 4 < (addL (addL (mulL x0 x0) (mulL x1 x1)) (mulL x2 x2)).length) => I (by omega : 4 < (addL (addL (mulL x0 x0) (mulL x1 x1)) (mulL x2 x2)).length) (I (by omega : 4 < (mulL F.2.2.2 F.2.2.2).length) (And.intro (fun (h6 : 5 < (addL (addL (mulL x0 x0) (mulL x1 x1)) (mulL x2 x2)).length) => (by omega : False)) (fun (h7 : ¬ (5 < (addL (addL (mulL x0 x0) (mulL x1 x1)) (mulL x2 x2)).length)) => (by subst hx_2 hx_1 hx_0 hF; rfl : (minQ (minQ (minQ (minQ (minQ (((addL (addL (mulL x0 x0) (mulL x1 x1)) (mulL x2 x2)).getD 0 0) / ((mulL F.2.2.2 F.2.2.2).getD 0 0)) (((addL (addL (mulL x0 x0) (mulL x1 x1)) (mulL x2 x2)).getD 0 0) / ((mulL F.2.2.2 F.2.2.2).getD 0 0))) (((addL (addL (mulL x0 x0) (mulL x1 x1)) (mulL x2 x2)).getD 1 0) / ((mulL F.2.2.2 F.2.2.2).getD 1 0))) (((addL (addL (mulL x0 x0) (mulL x1 x1)) (mulL x2 x2)).getD 2 0) / ((mulL F.2.2.2 F.2.2.2).getD 2 0))) (((addL (addL (mulL x0 x0) (mulL x1 x1)) (mulL x2 x2)).getD 3 0) / ((mulL F.2.2.2 F.2.2.2).getD 3 0))) (((addL (addL (mulL x0 x0) (mulL x1 x1)) (mulL x2 x2)).getD 4 0) / ((mulL F.2.2.2 F.2.2.2).getD 4 0)), maxQ (maxQ (maxQ (maxQ (maxQ (((addL (addL (mulL x0 x0) (mulL x1 x1)) (mulL x2 x2)).getD 0 0) / ((mulL F.2.2.2 F.2.2.2).getD 0 0)) (((addL (addL (mulL x0 x0) (mulL x1 x1)) (mulL x2 x2)).getD 0 0) / ((mulL F.2.2.2 F.2.2.2).getD 0 0))) (((addL (addL (mulL x0 x0) (mulL x1 x1)) (mulL x2 x2)).getD 1 0) / ((mulL F.2.2.2 F.2.2.2).getD 1 0))) (((addL (addL (mulL x0 x0) (mulL x1 x1)) (mulL x2 x2)).getD 2 0) / ((mulL F.2.2.2 F.2.2.2).getD 2 0))) (((addL (addL (mulL x0 x0) (mulL x1 x1)) (mulL x2 x2)).getD 3 0) / ((mulL F.2.2.2 F.2.2.2).getD 3 0))) (((addL (addL (mulL x0 x0) (mulL x1 x1)) (mulL x2 x2)).getD 4 0) / ((mulL F.2.2.2 F.2.2.2).getD 4 0))) = reachV c m))))) (fun (h8 : ¬ (4 < (addL (addL (mulL x0 x0) (mulL x1 x1)) (mulL x2 x2)).length)) => (by omega : False))))) (fun (h9 : ¬ (3 < (addL (addL (mulL x0 x0) (mulL x1 x1)) (mulL x2 x2)).length)) => (by omega : False))))) (fun (h10 : ¬ (2 < (addL (addL (mulL x0 x0) (mulL x1 x1)) (mulL x2 x2)).length)) => (by omega : False))))) (fun (h11 : ¬ (1 < (addL (addL (mulL x0 x0) (mulL x1 x1)) (mulL x2 x2)).length)) => (by omega : False))))) (fun (h12 : ¬ (0 < (addL (addL (mulL x0 x0) (mulL x1 x1)) (mulL x2 x2)).length)) => (by omega : False)))))))) (subL F.2.2.1 (scaleL m.2.2 F.2.2.2)) rfl))))) (subL F.2.1 (scaleL m.2.1 F.2.2.2)) rfl)))) (subL F.1 (scaleL m.1 F.2.2.2)) rfl)) (numsV c.2.2) rfl)))
def aaround_c : Ctr Tryz.prog := ⟨59, [(.pr (.int .i64) (.pr (.sl .rat) (.sl (.pr (.pr .rat (.pr .rat .rat)) .rat)))), (.pr .rat (.pr .rat .rat))], [(.p (.n 6) (.p (.s 6 (.n 4000)) (.s 3 (.p (.p (.n 4000) (.p (.n 4000) (.n 4000))) (.n 4000))))), (.p (.n 4000) (.p (.n 4000) (.n 4000)))], fun z => [z.1.2.2.length = 3, Bnd tCurve (bCurve 4000) z.1, Bnd tV3 (bV3 4000) z.2], fun b z => aaround_R b z.1 z.2, fun z hx hp => aaround_sig z.1 z.2 hx hp, fun _ _ => rfl, fun b z hx hp => aaround_ok b z.1 z.2 hx hp⟩
abbrev areach_R (b : List Bd) (c : Int × List Rat × List ((Rat × Rat × Rat) × Rat)) (m : Rat × Rat × Rat) : WV := .c (.agg [.dt (.pr .rat .rat) (.p (.n 2000000) (.n 2000000)) (reachV c m)])
theorem areach_ok (b : List Bd) (c : Int × List Rat × List ((Rat × Rat × Rat) × Rat)) (m : Rat × Rat × Rat) (hx : Bnds [(.pr (.int .i64) (.pr (.sl .rat) (.sl (.pr (.pr .rat (.pr .rat .rat)) .rat)))), (.pr .rat (.pr .rat .rat))] b (c, m)) (hp : ∀ c0 ∈ ([c.2.2.length = 3, Bnd tCurve (bCurve 4000) c, Bnd tV3 (bV3 4000) m] : List Prop), c0) : (areach_R b c m).ok := agg_ok (reachV_b (hp _ (List.mem_cons_of_mem _ List.mem_cons_self)) (hp _ List.mem_cons_self) (hp _ (List.mem_cons_of_mem _ (List.mem_cons_of_mem _ List.mem_cons_self))))
theorem areach_sig (c : Int × List Rat × List ((Rat × Rat × Rat) × Rat)) (m : Rat × Rat × Rat) (hx : Bnds [(.pr (.int .i64) (.pr (.sl .rat) (.sl (.pr (.pr .rat (.pr .rat .rat)) .rat)))), (.pr .rat (.pr .rat .rat))] [(.p (.n 6) (.p (.s 6 (.n 4000)) (.s 3 (.p (.p (.n 4000) (.p (.n 4000) (.n 4000))) (.n 4000))))), (.p (.n 4000) (.p (.n 4000) (.n 4000)))] (c, m)) (hp : ∀ c0 ∈ ([c.2.2.length = 3, Bnd tCurve (bCurve 4000) c, Bnd tV3 (bV3 4000) m] : List Prop), c0) : Sig Tryz.prog 63 (argsE [(.pr (.int .i64) (.pr (.sl .rat) (.sl (.pr (.pr .rat (.pr .rat .rat)) .rat)))), (.pr .rat (.pr .rat .rat))] (c, m)) (areach_R [(.p (.n 6) (.p (.s 6 (.n 4000)) (.s 3 (.p (.p (.n 4000) (.p (.n 4000) (.n 4000))) (.n 4000))))), (.p (.n 4000) (.p (.n 4000) (.n 4000)))] c m).exp := by
  have hp0 : c.2.2.length = 3 := hp _ (List.mem_cons_self)
  have hp1 : Bnd tCurve (bCurve 4000) c := hp _ (List.mem_cons_of_mem _ (List.mem_cons_self))
  have hp2 : Bnd tV3 (bV3 4000) m := hp _ (List.mem_cons_of_mem _ (List.mem_cons_of_mem _ (List.mem_cons_self)))
  exact sigW hmix Tryz.func63 rfl rfl (by decide) (n := 86) (G := [(60, .c yquo_c), (114, .c xnums_c), (115, .c xsubp_c), (116, .c xscale_c), (117, .c xmulp_c), (118, .c xaddp_c), (119, .c ymin_c), (120, .c ymax_c)]) hx rfl rfl (areach_ok _ c m hx hp) ((fun (F : List Rat × List Rat × List Rat × List Rat) => (fun (x0 : List Rat) => (fun (x1 : List Rat) => (fun (x2 : List Rat) => .cond (.cond (.cond (.cond (.cond (.cond (.dead) (.nil)) (.dead)) (.dead)) (.dead)) (.dead)) (.dead)) (subL F.2.2.1 (scaleL m.2.2 F.2.2.2))) (subL F.2.1 (scaleL m.2.1 F.2.2.2))) (subL F.1 (scaleL m.1 F.2.2.2))) (numsV c.2.2)) (kcast (by kernel_rfl) (I (by omega : c.2.2.length = 3) ((fun (F : List Rat × List Rat × List Rat × List Rat) (hF : F = numsV c.2.2) => have hFl := (show F.1.length = 3 ∧ F.2.1.length = 3 ∧ F.2.2.1.length = 3 ∧ F.2.2.2.length = 3 from by rw [hF]; exact nums_len hp0); have hF1 := hFl.1; have hF2 := hFl.2.1; have hF3 := hFl.2.2.1; have hF4 := hFl.2.2.2; I (by rw [scaleL_len]; omega : F.1.length = (scaleL m.1 F.2.2.2).length) (I (by omega : F.1.length ≤ 41) ((fun (x0 : List Rat) (hx_0 : x0 = subL F.1 (scaleL m.1 F.2.2.2)) => have hlx0 := (show x0.length = 3 from by rw [hx_0]; exact x_len hF1 hF4); I (by omega : x0.length = 3) (I (by omega : x0.length = 3) (I (by rw [scaleL_len]; omega : F.2.1.length = (scaleL m.2.1 F.2.2.2).length) (I (by omega : F.2.1.length ≤ 41) ((fun (x1 : List Rat) (hx_1 : x1 = subL F.2.1 (scaleL m.2.1 F.2.2.2)) => have hlx1 := (show x1.length = 3 from by rw [hx_1]; exact x_len hF2 hF4); I (by omega : x1.length = 3) (I (by omega : x1.length = 3) (I (by first | rw [mulL_len, mulL_len] | (rw [addL_len (by rw [mulL_len, mulL_len]), mulL_len, mulL_len]) : (mulL x0 x0).length = (mulL x1 x1).length) (I (by first | (rw [mulL_len]; omega) | (rw [addL_len (by rw [mulL_len, mulL_len]), mulL_len]; omega) : (mulL x0 x0).length ≤ 41) (I (by rw [scaleL_len]; omega : F.2.2.1.length = (scaleL m.2.2 F.2.2.2).length) (I (by omega : F.2.2.1.length ≤ 41) ((fun (x2 : List Rat) (hx_2 : x2 = subL F.2.2.1 (scaleL m.2.2 F.2.2.2)) => have hlx2 := (show x2.length = 3 from by rw [hx_2]; exact x_len hF3 hF4); I (by omega : x2.length = 3) (I (by omega : x2.length = 3) (I (by first | rw [mulL_len, mulL_len] | (rw [addL_len (by rw [mulL_len, mulL_len]), mulL_len, mulL_len]) : (addL (mulL x0 x0) (mulL x1 x1)).length = (mulL x2 x2).length) (I (by first | (rw [mulL_len]; omega) | (rw [addL_len (by rw [mulL_len, mulL_len]), mulL_len]; omega) : (addL (mulL x0 x0) (mulL x1 x1)).length ≤ 41) (I (by omega : F.2.2.2.length = 3) (I (by omega : F.2.2.2.length = 3) (have hl5 := (show (addL (addL (mulL x0 x0) (mulL x1 x1)) (mulL x2 x2)).length = 5 from by rw [addL_len (by rw [addL_len (by rw [mulL_len, mulL_len]), mulL_len, mulL_len]), addL_len (by rw [mulL_len, mulL_len]), mulL_len]); have hw5 := (mulL_len F.2.2.2 F.2.2.2); And.intro (fun (h1 : 0 < (mulL F.2.2.2 F.2.2.2).length) => I (by omega : 0 < (addL (addL (mulL x0 x0) (mulL x1 x1)) (mulL x2 x2)).length) (I (by omega : 0 < (mulL F.2.2.2 F.2.2.2).length) (And.intro (fun (h2 : 1 < (mulL F.2.2.2 F.2.2.2).length) => I (by omega : 1 < (addL (addL (mulL x0 x0) (mulL x1 x1)) (mulL x2 x2)).length) (I (by omega : 1 < (mulL F.2.2.2 F.2.2.2).length) (And.intro (fun (h3 : 2 < (mulL F.2.2.2 F.2.2.2).length) => I (by omega : 2 < (addL (addL (mulL x0 x0) (mulL x1 x1)) (mulL x2 x2)).length) (I (by omega : 2 < (mulL F.2.2.2 F.2.2.2).length) (And.intro (fun (h4 : 3 < (mulL F.2.2.2 F.2.2.2).length) => I (by omega : 3 < (addL (addL (mulL x0 x0) (mulL x1 x1)) (mulL x2 x2)).length) (I (by omega : 3 < (mulL F.2.2.2 F.2.2.2).length) (And.intro (fun (h5 : 4 < (mulL F.2.2.2 F.2.2.2).length) => I (by omega : 4 < (addL (addL (mulL x0 x0) (mulL x1 x1)) (mulL x2 x2)).length) (I (by omega : 4 < (mulL F.2.2.2 F.2.2.2).length) (And.intro (fun (h6 : 5 < (mulL F.2.2.2 F.2.2.2).length) => (by omega : False)) (fun (h7 : ¬ (5 < (mulL F.2.2.2 F.2.2.2).length)) => (by subst hx_2 hx_1 hx_0 hF; rfl : (minQ (minQ (minQ (minQ (minQ (((addL (addL (mulL x0 x0) (mulL x1 x1)) (mulL x2 x2)).getD 0 0) / ((mulL F.2.2.2 F.2.2.2).getD 0 0)) (((addL (addL (mulL x0 x0) (mulL x1 x1)) (mulL x2 x2)).getD 0 0) / ((mulL F.2.2.2 F.2.2.2).getD 0 0))) (((addL (addL (mulL x0 x0) (mulL x1 x1)) (mulL x2 x2)).getD 1 0) / ((mulL F.2.2.2 F.2.2.2).getD 1 0))) (((addL (addL (mulL x0 x0) (mulL x1 x1)) (mulL x2 x2)).getD 2 0) / ((mulL F.2.2.2 F.2.2.2).getD 2 0))) (((addL (addL (mulL x0 x0) (mulL x1 x1)) (mulL x2 x2)).getD 3 0) / ((mulL F.2.2.2 F.2.2.2).getD 3 0))) (((addL (addL (mulL x0 x0) (mulL x1 x1)) (mulL x2 x2)).getD 4 0) / ((mulL F.2.2.2 F.2.2.2).getD 4 0)), maxQ (maxQ (maxQ (maxQ (maxQ (((addL (addL (mulL x0 x0) (mulL x1 x1)) (mulL x2 x2)).getD 0 0) / ((mulL F.2.2.2 F.2.2.2).getD 0 0)) (((addL (addL (mulL x0 x0) (mulL x1 x1)) (mulL x2 x2)).getD 0 0) / ((mulL F.2.2.2 F.2.2.2).getD 0 0))) (((addL (addL (mulL x0 x0) (mulL x1 x1)) (mulL x2 x2)).getD 1 0) / ((mulL F.2.2.2 F.2.2.2).getD 1 0))) (((addL (addL (mulL x0 x0) (mulL x1 x1)) (mulL x2 x2)).getD 2 0) / ((mulL F.2.2.2 F.2.2.2).getD 2 0))) (((addL (addL (mulL x0 x0) (mulL x1 x1)) (mulL x2 x2)).getD 3 0) / ((mulL F.2.2.2 F.2.2.2).getD 3 0))) (((addL (addL (mulL x0 x0) (mulL x1 x1)) (mulL x2 x2)).getD 4 0) / ((mulL F.2.2.2 F.2.2.2).getD 4 0))) = reachV c m))))) (fun (h8 : ¬ (4 < (mulL F.2.2.2 F.2.2.2).length)) => (by omega : False))))) (fun (h9 : ¬ (3 < (mulL F.2.2.2 F.2.2.2).length)) => (by omega : False))))) (fun (h10 : ¬ (2 < (mulL F.2.2.2 F.2.2.2).length)) => (by omega : False))))) (fun (h11 : ¬ (1 < (mulL F.2.2.2 F.2.2.2).length)) => (by omega : False))))) (fun (h12 : ¬ (0 < (mulL F.2.2.2 F.2.2.2).length)) => (by omega : False))))))))) (subL F.2.2.1 (scaleL m.2.2 F.2.2.2)) rfl))))))) (subL F.2.1 (scaleL m.2.1 F.2.2.2)) rfl))))) (subL F.1 (scaleL m.1 F.2.2.2)) rfl))) (numsV c.2.2) rfl)))
def areach_c : Ctr Tryz.prog := ⟨63, [(.pr (.int .i64) (.pr (.sl .rat) (.sl (.pr (.pr .rat (.pr .rat .rat)) .rat)))), (.pr .rat (.pr .rat .rat))], [(.p (.n 6) (.p (.s 6 (.n 4000)) (.s 3 (.p (.p (.n 4000) (.p (.n 4000) (.n 4000))) (.n 4000))))), (.p (.n 4000) (.p (.n 4000) (.n 4000)))], fun z => [z.1.2.2.length = 3, Bnd tCurve (bCurve 4000) z.1, Bnd tV3 (bV3 4000) z.2], fun b z => areach_R b z.1 z.2, fun z hx hp => areach_sig z.1 z.2 hx hp, fun _ _ => rfl, fun b z hx hp => areach_ok b z.1 z.2 hx hp⟩
end Go.Proofs.YtcjgaaibflcdiaaGreat.Sx

namespace Go.Proofs.YtcjgaaibflcdiaaGreat.Sx
open Go Go.Proofs
set_option linter.unusedVariables false
set_option linter.unusedSimpArgs false
set_option maxRecDepth 20000
set_option maxHeartbeats 4000000
abbrev azero_R (b : List Bd) (e : Int) : WV := .tup [.agg [.dt tCurve (bCurve 4000) (0, [], [])], .agg [.dt tV3 (bV3 4000) (0, 0, 0)], .agg [.dt (.pr .rat .rat) (.p (.n 2000000) (.n 2000000)) (0, 0)], .one (.dt (.int .i64) (b0 b) e)]
theorem azero_ok (b : List Bd) (e : Int) (hx : Bnds [(.int .i64)] b e) (hp : ∀ c0 ∈ ([] : List Prop), c0) : (azero_R b e).ok := tup_cons (agg_ok zeroA_b.1) (tup_cons (agg_ok zeroA_b.2.1) (tup_cons (agg_ok zeroA_b.2.2) (tup_cons (one_ok (Bnds.h1 hx) rfl) tup_nil)))
theorem azero_sig (e : Int) (hx : Bnds [(.int .i64)] [(.n 16)] e) (hp : ∀ c0 ∈ ([] : List Prop), c0) : Sig Tryz.prog 45 (argsE [(.int .i64)] e) (azero_R [(.n 16)] e).exp := by
  have hx0 : Int.natAbs e ≤ 16 := hx
  exact sigW hmix Tryz.func45 rfl rfl (by decide) (n := 10) (G := []) hx rfl rfl (azero_ok _ e hx hp) (.nil) (kcast (by kernel_rfl) (And.intro (rfl : (0, [], []) = ((0, [], []) : Curve)) (And.intro (rfl : (0, 0, 0) = ((0, 0, 0) : V3)) (And.intro (rfl : (0, 0) = ((0, 0) : Rat × Rat)) (rfl : e = e)))))
def azero_c : Ctr Tryz.prog := ⟨45, [(.int .i64)], [(.n 16)], fun z => [], fun b z => azero_R b z, fun z hx hp => azero_sig z hx hp, fun _ _ => rfl, fun b z hx hp => azero_ok b z hx hp⟩
abbrev aArc_R (b : List Bd) (p : Rat × Rat × Rat) (d : Rat × Rat × Rat) (e : Rat × Rat × Rat) (k : Int) : WV := .tup [.agg [.dt tCurve (bCurve 4000) (arcR p d e k).1], .agg [.dt tV3 (bV3 4000) (arcR p d e k).2.1], .agg [.dt (.pr .rat .rat) (.p (.n 2000000) (.n 2000000)) (arcR p d e k).2.2.1], .one (.dt (.int .i64) (.n 16) (arcR p d e k).2.2.2)]
theorem aArc_ok (b : List Bd) (p : Rat × Rat × Rat) (d : Rat × Rat × Rat) (e : Rat × Rat × Rat) (k : Int) (hx : Bnds [(.pr .rat (.pr .rat .rat)), (.pr .rat (.pr .rat .rat)), (.pr .rat (.pr .rat .rat)), (.int .i64)] b (p, d, e, k)) (hp : ∀ c0 ∈ ([Bnd tV3 (bV3 16) p, Bnd tV3 (bV3 16) d, Bnd tV3 (bV3 16) e] : List Prop), c0) : (aArc_R b p d e k).ok := (by have b := arcR_b (k := k) (hp _ List.mem_cons_self) (hp _ (List.mem_cons_of_mem _ List.mem_cons_self)) (hp _ (List.mem_cons_of_mem _ (List.mem_cons_of_mem _ List.mem_cons_self))); exact tup_cons (agg_ok b.1) (tup_cons (agg_ok b.2.1) (tup_cons (agg_ok b.2.2.1) (tup_cons (one_ok b.2.2.2 rfl) tup_nil))))
theorem aArc_sig (p : Rat × Rat × Rat) (d : Rat × Rat × Rat) (e : Rat × Rat × Rat) (k : Int) (hx : Bnds [(.pr .rat (.pr .rat .rat)), (.pr .rat (.pr .rat .rat)), (.pr .rat (.pr .rat .rat)), (.int .i64)] [(.p (.n 16) (.p (.n 16) (.n 16))), (.p (.n 16) (.p (.n 16) (.n 16))), (.p (.n 16) (.p (.n 16) (.n 16))), (.n 9223372036854775808)] (p, d, e, k)) (hp : ∀ c0 ∈ ([Bnd tV3 (bV3 16) p, Bnd tV3 (bV3 16) d, Bnd tV3 (bV3 16) e] : List Prop), c0) : Sig Tryz.prog 13 (argsE [(.pr .rat (.pr .rat .rat)), (.pr .rat (.pr .rat .rat)), (.pr .rat (.pr .rat .rat)), (.int .i64)] (p, d, e, k)) (aArc_R [(.p (.n 16) (.p (.n 16) (.n 16))), (.p (.n 16) (.p (.n 16) (.n 16))), (.p (.n 16) (.p (.n 16) (.n 16))), (.n 9223372036854775808)] p d e k).exp := by
  have hx3 : Int.natAbs k ≤ 9223372036854775808 := hx.2.2.2
  have hp0 : Bnd tV3 (bV3 16) p := hp _ (List.mem_cons_self)
  have hp1 : Bnd tV3 (bV3 16) d := hp _ (List.mem_cons_of_mem _ (List.mem_cons_self))
  have hp2 : Bnd tV3 (bV3 16) e := hp _ (List.mem_cons_of_mem _ (List.mem_cons_of_mem _ (List.mem_cons_self)))
  exact sigW hmix Tryz.func13 rfl rfl (by decide) (n := 136) (G := [(45, .c azero_c), (46, .c vzerop_c), (47, .c vcrossp_c), (48, .c vdotp_c), (49, .c ablroot_c), (50, .c vscalep_c), (51, .c rsub_c), (52, .c raddp_c), (53, .c rsign_c), (54, .c rquo_c), (55, .c vaddp_c), (56, .c rint_c), (57, .c ocurve_c), (58, .c opoint_c), (59, .c aaround_c)]) hx rfl rfl (aArc_ok _ p d e k hx hp) (.cond (.nil) (.cond (.nil) (.cond (.nil) ((fun (dd : Rat) => (fun (u : Rat) => (fun (f : Rat × Rat × Rat) => (fun (df : Rat) => (fun (w : Rat) => .cond (.nil) (.cond (.nil) (.cond (.nil) (.h 18 6 (.mk (.im .rat (.n 4))) (.h 19 13 (.mk (.im (.pr (.pr .rat (.pr .rat .rat)) .rat) (.p (.p (.n 4000) (.p (.n 4000) (.n 4000))) (.n 4000)))) (.nil)))))) (rootLo ((dd - df) / (dd + dd)) k.toNat)) (dotQ d f)) (scaleV u e)) (rootLo (dd / (dotQ e e)) k.toNat)) (dotQ d d))))) (kcast (by kernel_rfl) (And.intro (fun (h1 : k < 0) => And.intro (by  exact congrArg (fun z : ArcR => z.1) (arc_1 (.inl h1)) : ((0, [], []) : Curve) = (arcR p d e k).1) (And.intro (by  exact congrArg (fun z : ArcR => z.2.1) (arc_1 (.inl h1)) : ((0, 0, 0) : V3) = (arcR p d e k).2.1) (And.intro (by  exact congrArg (fun z : ArcR => z.2.2.1) (arc_1 (.inl h1)) : ((0, 0) : Rat × Rat) = (arcR p d e k).2.2.1) (by  exact congrArg (fun z : ArcR => z.2.2.2) (arc_1 (.inl h1)) : 1 = (arcR p d e k).2.2.2)))) (fun (h2 : ¬ (k < 0)) => And.intro (fun (h3 : 64 < k) => And.intro (by  exact congrArg (fun z : ArcR => z.1) (arc_1 (.inr h3)) : ((0, [], []) : Curve) = (arcR p d e k).1) (And.intro (by  exact congrArg (fun z : ArcR => z.2.1) (arc_1 (.inr h3)) : ((0, 0, 0) : V3) = (arcR p d e k).2.1) (And.intro (by  exact congrArg (fun z : ArcR => z.2.2.1) (arc_1 (.inr h3)) : ((0, 0) : Rat × Rat) = (arcR p d e k).2.2.1) (by  exact congrArg (fun z : ArcR => z.2.2.2) (arc_1 (.inr h3)) : 1 = (arcR p d e k).2.2.2)))) (fun (h4 : ¬ (64 < k)) => And.intro (fun (h5 : decide ((crossQ d e) = (0, 0, 0)) = true) => And.intro (by  exact congrArg (fun z : ArcR => z.1) (arc_2 (by omega) (yd h5)) : ((0, [], []) : Curve) = (arcR p d e k).1) (And.intro (by  exact congrArg (fun z : ArcR => z.2.1) (arc_2 (by omega) (yd h5)) : ((0, 0, 0) : V3) = (arcR p d e k).2.1) (And.intro (by  exact congrArg (fun z : ArcR => z.2.2.1) (arc_2 (by omega) (yd h5)) : ((0, 0) : Rat × Rat) = (arcR p d e k).2.2.1) (by  exact congrArg (fun z : ArcR => z.2.2.2) (arc_2 (by omega) (yd h5)) : 9 = (arcR p d e k).2.2.2)))) (fun (h6 : ¬ (decide ((crossQ d e) = (0, 0, 0)) = true)) => (fun (dd : Rat) (hdd : dd = dotQ d d) => I (by omega : 0 ≤ k) (I (by omega : k ≤ 64) ((fun (u : Rat) (hu : u = rootLo (dd / (dotQ e e)) k.toNat) => (fun (f : Rat × Rat × Rat) (hf : f = scaleV u e) => (fun (df : Rat) (hdf : df = dotQ d f) => I (by omega : 0 ≤ k) (I (by omega : k ≤ 64) ((fun (w : Rat) (hw0 : w = rootLo ((dd - df) / (dd + dd)) k.toNat) => And.intro (fun (h7 : sgnQ u = 0) => And.intro (by subst hw0 hdf hf hu hdd; exact congrArg (fun z : ArcR => z.1) (arc_3 (by omega) (yd' h6) (.inl h7)) : ((0, [], []) : Curve) = (arcR p d e k).1) (And.intro (by subst hw0 hdf hf hu hdd; exact congrArg (fun z : ArcR => z.2.1) (arc_3 (by omega) (yd' h6) (.inl h7)) : ((0, 0, 0) : V3) = (arcR p d e k).2.1) (And.intro (by subst hw0 hdf hf hu hdd; exact congrArg (fun z : ArcR => z.2.2.1) (arc_3 (by omega) (yd' h6) (.inl h7)) : ((0, 0) : Rat × Rat) = (arcR p d e k).2.2.1) (by subst hw0 hdf hf hu hdd; exact congrArg (fun z : ArcR => z.2.2.2) (arc_3 (by omega) (yd' h6) (.inl h7)) : 6 = (arcR p d e k).2.2.2)))) (fun (h8 : ¬ (sgnQ u = 0)) => And.intro (fun (h9 : sgnQ w = 0) => And.intro (by subst hw0 hdf hf hu hdd; exact congrArg (fun z : ArcR => z.1) (arc_3 (by omega) (yd' h6) (.inr h9)) : ((0, [], []) : Curve) = (arcR p d e k).1) (And.intro (by subst hw0 hdf hf hu hdd; exact congrArg (fun z : ArcR => z.2.1) (arc_3 (by omega) (yd' h6) (.inr h9)) : ((0, 0, 0) : V3) = (arcR p d e k).2.1) (And.intro (by subst hw0 hdf hf hu hdd; exact congrArg (fun z : ArcR => z.2.2.1) (arc_3 (by omega) (yd' h6) (.inr h9)) : ((0, 0) : Rat × Rat) = (arcR p d e k).2.2.1) (by subst hw0 hdf hf hu hdd; exact congrArg (fun z : ArcR => z.2.2.2) (arc_3 (by omega) (yd' h6) (.inr h9)) : 6 = (arcR p d e k).2.2.2)))) (fun (h10 : ¬ (sgnQ w = 0)) => And.intro (fun (h11 : quoC (dd + df) ≠ 0) => And.intro (by subst hw0 hdf hf hu hdd; exact congrArg (fun z : ArcR => z.1) (arc_4 (by omega) (yd' h6) (not_or.2 ⟨h8, h10⟩) h11) : ((0, [], []) : Curve) = (arcR p d e k).1) (And.intro (by subst hw0 hdf hf hu hdd; exact congrArg (fun z : ArcR => z.2.1) (arc_4 (by omega) (yd' h6) (not_or.2 ⟨h8, h10⟩) h11) : ((0, 0, 0) : V3) = (arcR p d e k).2.1) (And.intro (by subst hw0 hdf hf hu hdd; exact congrArg (fun z : ArcR => z.2.2.1) (arc_4 (by omega) (yd' h6) (not_or.2 ⟨h8, h10⟩) h11) : ((0, 0) : Rat × Rat) = (arcR p d e k).2.2.1) (by subst hw0 hdf hf hu hdd; exact congrArg (fun z : ArcR => z.2.2.2) (arc_4 (by omega) (yd' h6) (not_or.2 ⟨h8, h10⟩) h11) : 7 = (arcR p d e k).2.2.2)))) (fun (h12 : ¬ (quoC (dd + df) ≠ 0)) => I (rfl : (2, [0, 0, 0, ((1 : Int) : Rat), ((1 : Int) : Rat), ((1 : Int) : Rat)], [(addV p d, ((1 : Int) : Rat)), (p, w), (addV p f, ((1 : Int) : Rat))]).2.2.length = 3) (I (by subst hw0 hdf hf hu hdd; exact (arc_b hp0 hp1 hp2 (by omega)).cv : Bnd tCurve (bCurve 4000) (2, [0, 0, 0, ((1 : Int) : Rat), ((1 : Int) : Rat), ((1 : Int) : Rat)], [(addV p d, ((1 : Int) : Rat)), (p, w), (addV p f, ((1 : Int) : Rat))])) (I (by subst hw0 hdf hf hu hdd; exact (arc_b hp0 hp1 hp2 (by omega)).c : Bnd tV3 (bV3 4000) (addV p (scaleV (dd / (dd + df)) (addV d f)))) (And.intro (by subst hw0 hdf hf hu hdd; exact congrArg (fun z : ArcR => z.1) (arc_5 (by omega) (yd' h6) (not_or.2 ⟨h8, h10⟩) h12) : (2, [0, 0, 0, ((1 : Int) : Rat), ((1 : Int) : Rat), ((1 : Int) : Rat)], [(addV p d, ((1 : Int) : Rat)), (p, w), (addV p f, ((1 : Int) : Rat))]) = (arcR p d e k).1) (And.intro (by subst hw0 hdf hf hu hdd; exact congrArg (fun z : ArcR => z.2.1) (arc_5 (by omega) (yd' h6) (not_or.2 ⟨h8, h10⟩) h12) : addV p (scaleV (dd / (dd + df)) (addV d f)) = (arcR p d e k).2.1) (And.intro (by subst hw0 hdf hf hu hdd; exact congrArg (fun z : ArcR => z.2.2.1) (arc_5 (by omega) (yd' h6) (not_or.2 ⟨h8, h10⟩) h12) : reachV (2, [0, 0, 0, ((1 : Int) : Rat), ((1 : Int) : Rat), ((1 : Int) : Rat)], [(addV p d, ((1 : Int) : Rat)), (p, w), (addV p f, ((1 : Int) : Rat))]) (addV p (scaleV (dd / (dd + df)) (addV d f))) = (arcR p d e k).2.2.1) (by subst hw0 hdf hf hu hdd; exact congrArg (fun z : ArcR => z.2.2.2) (arc_5 (by omega) (yd' h6) (not_or.2 ⟨h8, h10⟩) h12) : 0 = (arcR p d e k).2.2.2)))))))))) (rootLo ((dd - df) / (dd + dd)) k.toNat) rfl))) (dotQ d f) rfl) (scaleV u e) rfl) (rootLo (dd / (dotQ e e)) k.toNat) rfl))) (dotQ d d) rfl)))))
def aArc_c : Ctr Tryz.prog := ⟨13, [(.pr .rat (.pr .rat .rat)), (.pr .rat (.pr .rat .rat)), (.pr .rat (.pr .rat .rat)), (.int .i64)], [(.p (.n 16) (.p (.n 16) (.n 16))), (.p (.n 16) (.p (.n 16) (.n 16))), (.p (.n 16) (.p (.n 16) (.n 16))), (.n 9223372036854775808)], fun z => [Bnd tV3 (bV3 16) z.1, Bnd tV3 (bV3 16) z.2.1, Bnd tV3 (bV3 16) z.2.2.1], fun b z => aArc_R b z.1 z.2.1 z.2.2.1 z.2.2.2, fun z hx hp => aArc_sig z.1 z.2.1 z.2.2.1 z.2.2.2 hx hp, fun _ _ => rfl, fun b z hx hp => aArc_ok b z.1 z.2.1 z.2.2.1 z.2.2.2 hx hp⟩
abbrev aArcS_R (b : List Bd) (p : Rat × Rat × Rat) (d : Rat × Rat × Rat) (e : Rat × Rat × Rat) (k : Int) : WV := .tup [.agg [.dt tCurve (bCurve 4000) (arcR p d e k).1], .agg [.dt tV3 (bV3 4000) (arcR p d e k).2.1], .agg [.dt (.pr .rat .rat) (.p (.n 2000000) (.n 2000000)) (arcR p d e k).2.2.1], .one (.dt (.int .i64) (.n 16) (arcR p d e k).2.2.2)]
theorem aArcS_ok (b : List Bd) (p : Rat × Rat × Rat) (d : Rat × Rat × Rat) (e : Rat × Rat × Rat) (k : Int) (hx : Bnds [(.pr .rat (.pr .rat .rat)), (.pr .rat (.pr .rat .rat)), (.pr .rat (.pr .rat .rat)), (.int .i64)] b (p, d, e, k)) (hp : ∀ c0 ∈ ([Bnd tV3 (bV3 16) p, Bnd tV3 (bV3 16) d, Bnd tV3 (bV3 16) e] : List Prop), c0) : (aArcS_R b p d e k).ok := (by have b := arcR_b (k := k) (hp _ List.mem_cons_self) (hp _ (List.mem_cons_of_mem _ List.mem_cons_self)) (hp _ (List.mem_cons_of_mem _ (List.mem_cons_of_mem _ List.mem_cons_self))); exact tup_cons (agg_ok b.1) (tup_cons (agg_ok b.2.1) (tup_cons (agg_ok b.2.2.1) (tup_cons (one_ok b.2.2.2 rfl) tup_nil))))
theorem aArcS_sig (p : Rat × Rat × Rat) (d : Rat × Rat × Rat) (e : Rat × Rat × Rat) (k : Int) (hx : Bnds [(.pr .rat (.pr .rat .rat)), (.pr .rat (.pr .rat .rat)), (.pr .rat (.pr .rat .rat)), (.int .i64)] [(.p (.n 16) (.p (.n 16) (.n 16))), (.p (.n 16) (.p (.n 16) (.n 16))), (.p (.n 16) (.p (.n 16) (.n 16))), (.n 9223372036854775808)] (p, d, e, k)) (hp : ∀ c0 ∈ ([Bnd tV3 (bV3 16) p, Bnd tV3 (bV3 16) d, Bnd tV3 (bV3 16) e] : List Prop), c0) : Sig Tryz.prog 14 (argsE [(.pr .rat (.pr .rat .rat)), (.pr .rat (.pr .rat .rat)), (.pr .rat (.pr .rat .rat)), (.int .i64)] (p, d, e, k)) (aArcS_R [(.p (.n 16) (.p (.n 16) (.n 16))), (.p (.n 16) (.p (.n 16) (.n 16))), (.p (.n 16) (.p (.n 16) (.n 16))), (.n 9223372036854775808)] p d e k).exp := by
  have hx3 : Int.natAbs k ≤ 9223372036854775808 := hx.2.2.2
  have hp0 : Bnd tV3 (bV3 16) p := hp _ (List.mem_cons_self)
  have hp1 : Bnd tV3 (bV3 16) d := hp _ (List.mem_cons_of_mem _ (List.mem_cons_self))
  have hp2 : Bnd tV3 (bV3 16) e := hp _ (List.mem_cons_of_mem _ (List.mem_cons_of_mem _ (List.mem_cons_self)))
  exact sigW hmix Tryz.func14 rfl rfl (by decide) (n := 150) (G := [(23, .c vdotr_c), (26, .c vaddr_c), (27, .c vzeror_c), (28, .c vcrossr_c), (29, .c ysign_c), (31, .c yint_c), (32, .c ymul_c), (34, .c ysub_c), (43, .c vscaler_c), (60, .c yquo_c), (61, .c xRoot_c), (62, .c yadd_c), (63, .c areach_c)]) hx rfl rfl (aArcS_ok _ p d e k hx hp) (.cond (.nil) (.cond (.nil) (.cond (.nil) ((fun (dd : Rat) => (fun (f : Rat × Rat × Rat) => (fun (df : Rat) => (fun (hfq : Rat) => .cond (.nil) (.cond (.nil) (.cond (.nil) (.cond (.nil) (.h 19 6 (.mk (.im .rat (.n 4))) (.h 19 21 (.mk (.im (.pr (.pr .rat (.pr .rat .rat)) .rat) (.p (.p (.n 4000) (.p (.n 4000) (.n 4000))) (.n 4000)))) (.nil))))))) ((dd - df) / (((2 : Int) : Rat) * dd))) (dotQ d f)) (scaleV (rootLo (dd / (dotQ e e)) k.toNat) e)) (dotQ d d))))) (kcast (by kernel_rfl) (And.intro (fun (h1 : k < 0) => And.intro (by  exact congrArg (fun z : ArcR => z.1) (arc_1 (.inl h1)) : (0, [], []) = (arcR p d e k).1) (And.intro (by  exact congrArg (fun z : ArcR => z.2.1) (arc_1 (.inl h1)) : (0, 0, 0) = (arcR p d e k).2.1) (And.intro (by  exact congrArg (fun z : ArcR => z.2.2.1) (arc_1 (.inl h1)) : (0, 0) = (arcR p d e k).2.2.1) (by  exact congrArg (fun z : ArcR => z.2.2.2) (arc_1 (.inl h1)) : 1 = (arcR p d e k).2.2.2)))) (fun (h2 : ¬ (k < 0)) => And.intro (fun (h3 : 64 < k) => And.intro (by  exact congrArg (fun z : ArcR => z.1) (arc_1 (.inr h3)) : (0, [], []) = (arcR p d e k).1) (And.intro (by  exact congrArg (fun z : ArcR => z.2.1) (arc_1 (.inr h3)) : (0, 0, 0) = (arcR p d e k).2.1) (And.intro (by  exact congrArg (fun z : ArcR => z.2.2.1) (arc_1 (.inr h3)) : (0, 0) = (arcR p d e k).2.2.1) (by  exact congrArg (fun z : ArcR => z.2.2.2) (arc_1 (.inr h3)) : 1 = (arcR p d e k).2.2.2)))) (fun (h4 : ¬ (64 < k)) => And.intro (fun (h5 : decide ((crossQ d e) = (0, 0, 0)) = true) => And.intro (by  exact congrArg (fun z : ArcR => z.1) (arc_2 (by omega) (yd h5)) : (0, [], []) = (arcR p d e k).1) (And.intro (by  exact congrArg (fun z : ArcR => z.2.1) (arc_2 (by omega) (yd h5)) : (0, 0, 0) = (arcR p d e k).2.1) (And.intro (by  exact congrArg (fun z : ArcR => z.2.2.1) (arc_2 (by omega) (yd h5)) : (0, 0) = (arcR p d e k).2.2.1) (by  exact congrArg (fun z : ArcR => z.2.2.2) (arc_2 (by omega) (yd h5)) : 9 = (arcR p d e k).2.2.2)))) (fun (h6 : ¬ (decide ((crossQ d e) = (0, 0, 0)) = true)) => (fun (dd : Rat) (hdd : dd = dotQ d d) => I (by omega : 0 ≤ k) (I (by omega : k ≤ 64) ((fun (f : Rat × Rat × Rat) (hf : f = scaleV (rootLo (dd / (dotQ e e)) k.toNat) e) => (fun (df : Rat) (hdf : df = dotQ d f) => (fun (hfq : Rat) (hhf : hfq = (dd - df) / (((2 : Int) : Rat) * dd)) => have hh2 := (show hfq = (dd - df) / (dd + dd) from by rw [hhf, two_x]); I (by omega : 0 ≤ k) (I (by omega : k ≤ 64) (And.intro (fun (h7 : sgnQ (rootLo (dd / (dotQ e e)) k.toNat) = 0) => And.intro (by subst hh2 hdf hf hdd; exact congrArg (fun z : ArcR => z.1) (arc_3 (by omega) (yd' h6) (.inl h7)) : (0, [], []) = (arcR p d e k).1) (And.intro (by subst hh2 hdf hf hdd; exact congrArg (fun z : ArcR => z.2.1) (arc_3 (by omega) (yd' h6) (.inl h7)) : (0, 0, 0) = (arcR p d e k).2.1) (And.intro (by subst hh2 hdf hf hdd; exact congrArg (fun z : ArcR => z.2.2.1) (arc_3 (by omega) (yd' h6) (.inl h7)) : (0, 0) = (arcR p d e k).2.2.1) (by subst hh2 hdf hf hdd; exact congrArg (fun z : ArcR => z.2.2.2) (arc_3 (by omega) (yd' h6) (.inl h7)) : 6 = (arcR p d e k).2.2.2)))) (fun (h8 : ¬ (sgnQ (rootLo (dd / (dotQ e e)) k.toNat) = 0)) => And.intro (fun (h9 : (!(decide (¬ hfq.num < 0))) = true) => And.intro (by subst hh2 hdf hf hdd; exact congrArg (fun z : ArcR => z.1) (arc_3 (by omega) (yd' h6) (.inr (root_neg (Decidable.of_not_not (nd h9))))) : (0, [], []) = (arcR p d e k).1) (And.intro (by subst hh2 hdf hf hdd; exact congrArg (fun z : ArcR => z.2.1) (arc_3 (by omega) (yd' h6) (.inr (root_neg (Decidable.of_not_not (nd h9))))) : (0, 0, 0) = (arcR p d e k).2.1) (And.intro (by subst hh2 hdf hf hdd; exact congrArg (fun z : ArcR => z.2.2.1) (arc_3 (by omega) (yd' h6) (.inr (root_neg (Decidable.of_not_not (nd h9))))) : (0, 0) = (arcR p d e k).2.2.1) (by subst hh2 hdf hf hdd; exact congrArg (fun z : ArcR => z.2.2.2) (arc_3 (by omega) (yd' h6) (.inr (root_neg (Decidable.of_not_not (nd h9))))) : 6 = (arcR p d e k).2.2.2)))) (fun (h10 : ¬ ((!(decide (¬ hfq.num < 0))) = true)) => And.intro (fun (h11 : sgnQ (rootLo hfq k.toNat) = 0) => And.intro (by subst hh2 hdf hf hdd; exact congrArg (fun z : ArcR => z.1) (arc_3 (by omega) (yd' h6) (.inr h11)) : (0, [], []) = (arcR p d e k).1) (And.intro (by subst hh2 hdf hf hdd; exact congrArg (fun z : ArcR => z.2.1) (arc_3 (by omega) (yd' h6) (.inr h11)) : (0, 0, 0) = (arcR p d e k).2.1) (And.intro (by subst hh2 hdf hf hdd; exact congrArg (fun z : ArcR => z.2.2.1) (arc_3 (by omega) (yd' h6) (.inr h11)) : (0, 0) = (arcR p d e k).2.2.1) (by subst hh2 hdf hf hdd; exact congrArg (fun z : ArcR => z.2.2.2) (arc_3 (by omega) (yd' h6) (.inr h11)) : 6 = (arcR p d e k).2.2.2)))) (fun (h12 : ¬ (sgnQ (rootLo hfq k.toNat) = 0)) => And.intro (fun (h13 : quoC (dd + df) ≠ 0) => And.intro (by subst hh2 hdf hf hdd; exact congrArg (fun z : ArcR => z.1) (arc_4 (by omega) (yd' h6) (not_or.2 ⟨h8, h12⟩) h13) : (0, [], []) = (arcR p d e k).1) (And.intro (by subst hh2 hdf hf hdd; exact congrArg (fun z : ArcR => z.2.1) (arc_4 (by omega) (yd' h6) (not_or.2 ⟨h8, h12⟩) h13) : (0, 0, 0) = (arcR p d e k).2.1) (And.intro (by subst hh2 hdf hf hdd; exact congrArg (fun z : ArcR => z.2.2.1) (arc_4 (by omega) (yd' h6) (not_or.2 ⟨h8, h12⟩) h13) : (0, 0) = (arcR p d e k).2.2.1) (by subst hh2 hdf hf hdd; exact congrArg (fun z : ArcR => z.2.2.2) (arc_4 (by omega) (yd' h6) (not_or.2 ⟨h8, h12⟩) h13) : 7 = (arcR p d e k).2.2.2)))) (fun (h14 : ¬ (quoC (dd + df) ≠ 0)) => I (rfl : (2, [0, 0, 0, ((1 : Int) : Rat), ((1 : Int) : Rat), ((1 : Int) : Rat)], [(addV p d, ((1 : Int) : Rat)), (p, rootLo hfq k.toNat), (addV p f, ((1 : Int) : Rat))]).2.2.length = 3) (I (by subst hh2 hdf hf hdd; exact (arc_b hp0 hp1 hp2 (by omega)).cv : Bnd tCurve (bCurve 4000) (2, [0, 0, 0, ((1 : Int) : Rat), ((1 : Int) : Rat), ((1 : Int) : Rat)], [(addV p d, ((1 : Int) : Rat)), (p, rootLo hfq k.toNat), (addV p f, ((1 : Int) : Rat))])) (I (by subst hh2 hdf hf hdd; exact (arc_b hp0 hp1 hp2 (by omega)).c : Bnd tV3 (bV3 4000) (addV p (scaleV (dd / (dd + df)) (addV d f)))) (And.intro (by subst hh2 hdf hf hdd; exact congrArg (fun z : ArcR => z.1) (arc_5 (by omega) (yd' h6) (not_or.2 ⟨h8, h12⟩) h14) : (2, [0, 0, 0, ((1 : Int) : Rat), ((1 : Int) : Rat), ((1 : Int) : Rat)], [(addV p d, ((1 : Int) : Rat)), (p, rootLo hfq k.toNat), (addV p f, ((1 : Int) : Rat))]) = (arcR p d e k).1) (And.intro (by subst hh2 hdf hf hdd; exact congrArg (fun z : ArcR => z.2.1) (arc_5 (by omega) (yd' h6) (not_or.2 ⟨h8, h12⟩) h14) : addV p (scaleV (dd / (dd + df)) (addV d f)) = (arcR p d e k).2.1) (And.intro (by subst hh2 hdf hf hdd; exact congrArg (fun z : ArcR => z.2.2.1) (arc_5 (by omega) (yd' h6) (not_or.2 ⟨h8, h12⟩) h14) : reachV (2, [0, 0, 0, ((1 : Int) : Rat), ((1 : Int) : Rat), ((1 : Int) : Rat)], [(addV p d, ((1 : Int) : Rat)), (p, rootLo hfq k.toNat), (addV p f, ((1 : Int) : Rat))]) (addV p (scaleV (dd / (dd + df)) (addV d f))) = (arcR p d e k).2.2.1) (by subst hh2 hdf hf hdd; exact congrArg (fun z : ArcR => z.2.2.2) (arc_5 (by omega) (yd' h6) (not_or.2 ⟨h8, h12⟩) h14) : 0 = (arcR p d e k).2.2.2))))))))))))) ((dd - df) / (((2 : Int) : Rat) * dd)) rfl) (dotQ d f) rfl) (scaleV (rootLo (dd / (dotQ e e)) k.toNat) e) rfl))) (dotQ d d) rfl)))))
def aArcS_c : Ctr Tryz.prog := ⟨14, [(.pr .rat (.pr .rat .rat)), (.pr .rat (.pr .rat .rat)), (.pr .rat (.pr .rat .rat)), (.int .i64)], [(.p (.n 16) (.p (.n 16) (.n 16))), (.p (.n 16) (.p (.n 16) (.n 16))), (.p (.n 16) (.p (.n 16) (.n 16))), (.n 9223372036854775808)], fun z => [Bnd tV3 (bV3 16) z.1, Bnd tV3 (bV3 16) z.2.1, Bnd tV3 (bV3 16) z.2.2.1], fun b z => aArcS_R b z.1 z.2.1 z.2.2.1 z.2.2.2, fun z hx hp => aArcS_sig z.1 z.2.1 z.2.2.1 z.2.2.2 hx hp, fun _ _ => rfl, fun b z hx hp => aArcS_ok b z.1 z.2.1 z.2.2.1 z.2.2.2 hx hp⟩
end Go.Proofs.YtcjgaaibflcdiaaGreat.Sx

namespace Go.Proofs.YtcjgaaibflcdiaaGreat.Sx
open Go
set_option linter.unusedVariables false
structure EqI {α : Type} (l m : List α) (i : Nat) : Prop where
  hl : l.length = m.length
  hi : i ≤ l.length
  ht : l.take i = m.take i
theorem EqI.start {α : Type} {l m : List α} (h : l.length = m.length) : EqI l m 0 := ⟨h, by omega, by simp⟩
theorem EqI.step {α : Type} {l m : List α} {i : Nat} (h : EqI l m i) (d : α) (hi : i < l.length) (he : l.getD i d = m.getD i d) : EqI l m (i + 1) :=
  ⟨h.hl, by omega, by have := h.hl; rw [take_snoc (d := d) hi, take_snoc (d := d) (by omega), h.ht, he]⟩
theorem EqI.fin {α : Type} {l m : List α} {i : Nat} (h : EqI l m i) (hi : ¬ i < l.length) : l = m := by
  have h1 := h.hl
  have := h.ht
  rwa [List.take_of_length_le (by omega), List.take_of_length_le (by omega)] at this
theorem eq_no {α : Type} [DecidableEq α] {l m : List α} {i : Nat} (d : α) (h : ¬ l.getD i d = m.getD i d) : false = decide (l = m) := (decide_eq_false fun e => h (by rw [e])).symm
theorem eq_len {α : Type} [DecidableEq α] {l m : List α} (h : l.length ≠ m.length) : false = decide (l = m) := (decide_eq_false fun e => h (by rw [e])).symm
theorem pole_no1 {x y : Pole} (h : ¬ x.1 = y.1) : ¬ x = y := fun e => h (by rw [e])
theorem pole_no2 {x y : Pole} (h : ¬ x.2 = y.2) : ¬ x = y := fun e => h (by rw [e])
theorem cv_no {x y : Curve} (h : ¬ x.1 = y.1 ∨ ¬ x.2.1 = y.2.1) : false = decide (x = y) := by
  symm; apply decide_eq_false; intro e; subst e; simp at h
theorem cv_iff {x y : Curve} (h1 : x.1 = y.1) (h2 : x.2.1 = y.2.1) : decide (x.2.2 = y.2.2) = decide (x = y) := by
  rw [decide_eq_decide]
  exact ⟨fun h => Prod.ext h1 (Prod.ext h2 h), fun h => by rw [h]⟩
def smallB (x : Rat) : Bool := Nat.blt x.num.natAbs 65536 && Nat.ble x.den 65536
theorem smallB_b {x : Rat} (h : smallB x = true) : Bnd .rat (.n 16) x := by
  unfold smallB at h
  simp only [Bool.and_eq_true] at h
  exact ⟨by have := Nat.le_of_ble_eq_true h.1; exact this, Nat.le_of_ble_eq_true h.2⟩
theorem small3 {x : V3} (h : (smallB x.1 && smallB x.2.1 && smallB x.2.2) = true) : Bnd tV3 (bV3 16) x := by
  simp only [Bool.and_eq_true] at h
  exact ⟨smallB_b h.1.1, smallB_b h.1.2, smallB_b h.2⟩
end Go.Proofs.YtcjgaaibflcdiaaGreat.Sx

namespace Go.Proofs.YtcjgaaibflcdiaaGreat.Sx
open Go Go.Proofs
set_option linter.unusedVariables false
set_option linter.unusedSimpArgs false
set_option maxRecDepth 20000
set_option maxHeartbeats 4000000
abbrev ysamel_R (b : List Bd) (p : List Rat) (q : List Rat) : WV := .c (.one (.dt .bool .u (decide (p = q))))
theorem ysamel_ok (b : List Bd) (p : List Rat) (q : List Rat) (hx : Bnds [(.sl .rat), (.sl .rat)] b (p, q)) (hp : ∀ c0 ∈ ([] : List Prop), c0) : (ysamel_R b p q).ok := one_ok trivial rfl
theorem ysamel_sig (p : List Rat) (q : List Rat) (hx : Bnds [(.sl .rat), (.sl .rat)] [(.s 1048576 (.n 68719476736)), (.s 1048576 (.n 68719476736))] (p, q)) (hp : ∀ c0 ∈ ([] : List Prop), c0) : Sig Tryz.prog 64 (argsE [(.sl .rat), (.sl .rat)] (p, q)) (ysamel_R [(.s 1048576 (.n 68719476736)), (.s 1048576 (.n 68719476736))] p q).exp := by
  have hl0 : p.length ≤ 1048576 := hx.1.1
  have he0 : ∀ u ∈ p, Bnd .rat (.n 68719476736) u := hx.1.2
  have hl1 : q.length ≤ 1048576 := hx.2.1
  have he1 : ∀ u ∈ q, Bnd .rat (.n 68719476736) u := hx.2.2
  exact sigW hmix Tryz.func64 rfl rfl (by decide) (n := 27) (G := [(17, .c ysame_c)]) hx rfl rfl (ysamel_ok _ p q hx hp) (.cond (.nil) (.loop [.s 5 (.nat .i64) (.n 1048576)] (fun (i : Nat) => EqI p q i) (fun (i : Nat) => p.length - i) (fun (i : Nat) => .nil))) (kcast (by kernel_rfl) (And.intro (fun (h1 : p.length ≠ q.length) => (eq_len h1 : false = decide (p = q))) (fun (h2 : ¬ (p.length ≠ q.length)) => I (EqI.start (by omega) : EqI p q 0) (fun (i : Nat) (hb3 : HB [.s 5 (.nat .i64) (.n 1048576)] i) (hI : EqI p q i) => have hv8 := (show i ≤ 1048576 from hb3); have hIi := hI.hi; have hIl := hI.hl; And.intro (fun (h4 : i < p.length) => I (by omega : i < p.length) (I (by omega : i < q.length) (And.intro (fun (h5 : (!(decide ((p.getD i 0) = (q.getD i 0)))) = true) => (eq_no _ (nd h5) : false = decide (p = q))) (fun (h6 : ¬ ((!(decide ((p.getD i 0) = (q.getD i 0)))) = true)) => I (show (i + 1) ≤ 1048576 by omega : Bnd (.nat .i64) (.n 1048576) (i + 1)) (And.intro (hI.step _ (by omega) (nd' h6) : EqI p q (i + 1)) (by omega : p.length - (i + 1) < p.length - i)))))) (fun (h7 : ¬ (i < p.length)) => ((decide_eq_true (hI.fin (by omega))).symm : true = decide (p = q)))))))
def ysamel_c : Ctr Tryz.prog := ⟨64, [(.sl .rat), (.sl .rat)], [(.s 1048576 (.n 68719476736)), (.s 1048576 (.n 68719476736))], fun z => [], fun b z => ysamel_R b z.1 z.2, fun z hx hp => ysamel_sig z.1 z.2 hx hp, fun _ _ => rfl, fun b z hx hp => ysamel_ok b z.1 z.2 hx hp⟩
abbrev ysamep_R (b : List Bd) (p : List ((Rat × Rat × Rat) × Rat)) (q : List ((Rat × Rat × Rat) × Rat)) : WV := .c (.one (.dt .bool .u (decide (p = q))))
theorem ysamep_ok (b : List Bd) (p : List ((Rat × Rat × Rat) × Rat)) (q : List ((Rat × Rat × Rat) × Rat)) (hx : Bnds [(.sl (.pr (.pr .rat (.pr .rat .rat)) .rat)), (.sl (.pr (.pr .rat (.pr .rat .rat)) .rat))] b (p, q)) (hp : ∀ c0 ∈ ([] : List Prop), c0) : (ysamep_R b p q).ok := one_ok trivial rfl
theorem ysamep_sig (p : List ((Rat × Rat × Rat) × Rat)) (q : List ((Rat × Rat × Rat) × Rat)) (hx : Bnds [(.sl (.pr (.pr .rat (.pr .rat .rat)) .rat)), (.sl (.pr (.pr .rat (.pr .rat .rat)) .rat))] [(.s 1048576 (.p (.p (.n 4294967296) (.p (.n 4294967296) (.n 4294967296))) (.n 4294967296))), (.s 1048576 (.p (.p (.n 4294967296) (.p (.n 4294967296) (.n 4294967296))) (.n 4294967296)))] (p, q)) (hp : ∀ c0 ∈ ([] : List Prop), c0) : Sig Tryz.prog 65 (argsE [(.sl (.pr (.pr .rat (.pr .rat .rat)) .rat)), (.sl (.pr (.pr .rat (.pr .rat .rat)) .rat))] (p, q)) (ysamep_R [(.s 1048576 (.p (.p (.n 4294967296) (.p (.n 4294967296) (.n 4294967296))) (.n 4294967296))), (.s 1048576 (.p (.p (.n 4294967296) (.p (.n 4294967296) (.n 4294967296))) (.n 4294967296)))] p q).exp := by
  have hl0 : p.length ≤ 1048576 := hx.1.1
  have he0 : ∀ u ∈ p, Bnd (.pr (.pr .rat (.pr .rat .rat)) .rat) (.p (.p (.n 4294967296) (.p (.n 4294967296) (.n 4294967296))) (.n 4294967296)) u := hx.1.2
  have hl1 : q.length ≤ 1048576 := hx.2.1
  have he1 : ∀ u ∈ q, Bnd (.pr (.pr .rat (.pr .rat .rat)) .rat) (.p (.p (.n 4294967296) (.p (.n 4294967296) (.n 4294967296))) (.n 4294967296)) u := hx.2.2
  exact sigW hmix Tryz.func65 rfl rfl (by decide) (n := 43) (G := [(16, .c vsamer_c), (17, .c ysame_c)]) hx rfl rfl (ysamep_ok _ p q hx hp) (.cond (.nil) (.loop [.s 5 (.nat .i64) (.n 1048576)] (fun (i : Nat) => EqI p q i) (fun (i : Nat) => p.length - i) (fun (i : Nat) => .nil))) (kcast (by kernel_rfl) (And.intro (fun (h1 : p.length ≠ q.length) => (eq_len h1 : false = decide (p = q))) (fun (h2 : ¬ (p.length ≠ q.length)) => I (EqI.start (by omega) : EqI p q 0) (fun (i : Nat) (hb3 : HB [.s 5 (.nat .i64) (.n 1048576)] i) (hI : EqI p q i) => have hv10 := (show i ≤ 1048576 from hb3); have hIi := hI.hi; have hIl := hI.hl; And.intro (fun (h4 : i < p.length) => I (by omega : i < p.length) (I (by omega : i < q.length) (And.intro (fun (h5 : (!(decide (((p.getD i ((0, (0, 0)), 0)).1) = ((q.getD i ((0, (0, 0)), 0)).1)))) = true) => (eq_no _ (pole_no1 (nd h5)) : false = decide (p = q))) (fun (h6 : ¬ ((!(decide (((p.getD i ((0, (0, 0)), 0)).1) = ((q.getD i ((0, (0, 0)), 0)).1)))) = true)) => I (by omega : i < p.length) (I (by omega : i < q.length) (And.intro (fun (h7 : (!(decide (((p.getD i ((0, (0, 0)), 0)).2) = ((q.getD i ((0, (0, 0)), 0)).2)))) = true) => (eq_no _ (pole_no2 (nd h7)) : false = decide (p = q))) (fun (h8 : ¬ ((!(decide (((p.getD i ((0, (0, 0)), 0)).2) = ((q.getD i ((0, (0, 0)), 0)).2)))) = true)) => I (show (i + 1) ≤ 1048576 by omega : Bnd (.nat .i64) (.n 1048576) (i + 1)) (And.intro (hI.step _ (by omega) (Prod.ext (nd' h6) (nd' h8)) : EqI p q (i + 1)) (by omega : p.length - (i + 1) < p.length - i))))))))) (fun (h9 : ¬ (i < p.length)) => ((decide_eq_true (hI.fin (by omega))).symm : true = decide (p = q)))))))
def ysamep_c : Ctr Tryz.prog := ⟨65, [(.sl (.pr (.pr .rat (.pr .rat .rat)) .rat)), (.sl (.pr (.pr .rat (.pr .rat .rat)) .rat))], [(.s 1048576 (.p (.p (.n 4294967296) (.p (.n 4294967296) (.n 4294967296))) (.n 4294967296))), (.s 1048576 (.p (.p (.n 4294967296) (.p (.n 4294967296) (.n 4294967296))) (.n 4294967296)))], fun z => [], fun b z => ysamep_R b z.1 z.2, fun z hx hp => ysamep_sig z.1 z.2 hx hp, fun _ _ => rfl, fun b z hx hp => ysamep_ok b z.1 z.2 hx hp⟩
abbrev ysamec_R (b : List Bd) (x : Int × List Rat × List ((Rat × Rat × Rat) × Rat)) (y : Int × List Rat × List ((Rat × Rat × Rat) × Rat)) : WV := .c (.one (.dt .bool .u (decide (x = y))))
theorem ysamec_ok (b : List Bd) (x : Int × List Rat × List ((Rat × Rat × Rat) × Rat)) (y : Int × List Rat × List ((Rat × Rat × Rat) × Rat)) (hx : Bnds [(.pr (.int .i64) (.pr (.sl .rat) (.sl (.pr (.pr .rat (.pr .rat .rat)) .rat)))), (.pr (.int .i64) (.pr (.sl .rat) (.sl (.pr (.pr .rat (.pr .rat .rat)) .rat))))] b (x, y)) (hp : ∀ c0 ∈ ([] : List Prop), c0) : (ysamec_R b x y).ok := one_ok trivial rfl
theorem ysamec_sig (x : Int × List Rat × List ((Rat × Rat × Rat) × Rat)) (y : Int × List Rat × List ((Rat × Rat × Rat) × Rat)) (hx : Bnds [(.pr (.int .i64) (.pr (.sl .rat) (.sl (.pr (.pr .rat (.pr .rat .rat)) .rat)))), (.pr (.int .i64) (.pr (.sl .rat) (.sl (.pr (.pr .rat (.pr .rat .rat)) .rat))))] [(.p (.n 1048576) (.p (.s 1048576 (.n 68719476736)) (.s 1048576 (.p (.p (.n 4294967296) (.p (.n 4294967296) (.n 4294967296))) (.n 4294967296))))), (.p (.n 1048576) (.p (.s 1048576 (.n 68719476736)) (.s 1048576 (.p (.p (.n 4294967296) (.p (.n 4294967296) (.n 4294967296))) (.n 4294967296)))))] (x, y)) (hp : ∀ c0 ∈ ([] : List Prop), c0) : Sig Tryz.prog 15 (argsE [(.pr (.int .i64) (.pr (.sl .rat) (.sl (.pr (.pr .rat (.pr .rat .rat)) .rat)))), (.pr (.int .i64) (.pr (.sl .rat) (.sl (.pr (.pr .rat (.pr .rat .rat)) .rat))))] (x, y)) (ysamec_R [(.p (.n 1048576) (.p (.s 1048576 (.n 68719476736)) (.s 1048576 (.p (.p (.n 4294967296) (.p (.n 4294967296) (.n 4294967296))) (.n 4294967296))))), (.p (.n 1048576) (.p (.s 1048576 (.n 68719476736)) (.s 1048576 (.p (.p (.n 4294967296) (.p (.n 4294967296) (.n 4294967296))) (.n 4294967296)))))] x y).exp := by
  exact sigW hmix Tryz.func15 rfl rfl (by decide) (n := 24) (G := [(64, .c ysamel_c), (65, .c ysamep_c)]) hx rfl rfl (ysamec_ok _ x y hx hp) (.nil) (kcast (by kernel_rfl) (And.intro (fun (h1 : x.1 = y.1) => And.intro (fun (h2 : decide (x.2.1 = y.2.1) = true) => (cv_iff h1 (yd h2) : decide (x.2.2 = y.2.2) = decide (x = y))) (fun (h3 : ¬ (decide (x.2.1 = y.2.1) = true)) => (cv_no (.inr (yd' h3)) : false = decide (x = y)))) (fun (h4 : ¬ (x.1 = y.1)) => (cv_no (.inl h4) : false = decide (x = y)))))
def ysamec_c : Ctr Tryz.prog := ⟨15, [(.pr (.int .i64) (.pr (.sl .rat) (.sl (.pr (.pr .rat (.pr .rat .rat)) .rat)))), (.pr (.int .i64) (.pr (.sl .rat) (.sl (.pr (.pr .rat (.pr .rat .rat)) .rat))))], [(.p (.n 1048576) (.p (.s 1048576 (.n 68719476736)) (.s 1048576 (.p (.p (.n 4294967296) (.p (.n 4294967296) (.n 4294967296))) (.n 4294967296))))), (.p (.n 1048576) (.p (.s 1048576 (.n 68719476736)) (.s 1048576 (.p (.p (.n 4294967296) (.p (.n 4294967296) (.n 4294967296))) (.n 4294967296)))))], fun z => [], fun b z => ysamec_R b z.1 z.2, fun z hx hp => ysamec_sig z.1 z.2 hx hp, fun _ _ => rfl, fun b z hx hp => ysamec_ok b z.1 z.2 hx hp⟩
end Go.Proofs.YtcjgaaibflcdiaaGreat.Sx

namespace Go.Proofs.YtcjgaaibflcdiaaGreat.Sx
open Go Go.Proofs
set_option linter.unusedVariables false
set_option linter.unusedSimpArgs false
set_option maxRecDepth 20000
set_option maxHeartbeats 4000000
abbrev lsane_R (b : List Bd)  : WV := .c (.one (.vl (.bool true)))
theorem lsane_ok (b : List Bd)  (hx : Bnds [] b ()) (hp : ∀ c0 ∈ ([] : List Prop), c0) : (lsane_R b ).ok := vl_ok rfl
theorem lsane_sig  (hx : Bnds [] [] ()) (hp : ∀ c0 ∈ ([] : List Prop), c0) : Sig Tryz.prog 8 (argsE [] ()) (lsane_R [] ).exp := by
  exact sigW hmix Tryz.func8 rfl rfl (by decide) (n := 50) (G := [(13, .c aArc_c), (16, .c vsamer_c), (17, .c ysame_c), (25, .c ycmp_c), (30, .c dat3_c), (31, .c yint_c), (33, .c yfrac_c)]) hx rfl rfl (lsane_ok _  hx hp) (.cond (.cond (.cond (.cond (.cond (.nil) (.dead)) (.dead)) (.dead)) (.dead)) (.dead)) (kcast (by kernel_rfl) (I (by exact small3 (by decide +kernel) : Bnd tV3 (bV3 16) (0, 0, 0)) (I (by exact small3 (by decide +kernel) : Bnd tV3 (bV3 16) (((1 : Int) : Rat), ((0 : Int) : Rat), ((0 : Int) : Rat))) (I (by exact small3 (by decide +kernel) : Bnd tV3 (bV3 16) (((0 : Int) : Rat), ((1 : Int) : Rat), ((0 : Int) : Rat))) (have hE := (show (arcR (0, 0, 0) (((1 : Int) : Rat), ((0 : Int) : Rat), ((0 : Int) : Rat)) (((0 : Int) : Rat), ((1 : Int) : Rat), ((0 : Int) : Rat)) 1).2.2.2 = 0 from by decide +kernel); have hL := (show (arcR (0, 0, 0) (((1 : Int) : Rat), ((0 : Int) : Rat), ((0 : Int) : Rat)) (((0 : Int) : Rat), ((1 : Int) : Rat), ((0 : Int) : Rat)) 1).1.2.2.length = 3 from by decide +kernel); have hW := (show ((arcR (0, 0, 0) (((1 : Int) : Rat), ((0 : Int) : Rat), ((0 : Int) : Rat)) (((0 : Int) : Rat), ((1 : Int) : Rat), ((0 : Int) : Rat)) 1).1.2.2.getD 1 ((0, 0, 0), 0)).2 = ((1 : Int) : Rat) / ((2 : Int) : Rat) from by decide +kernel); have hM := (show (arcR (0, 0, 0) (((1 : Int) : Rat), ((0 : Int) : Rat), ((0 : Int) : Rat)) (((0 : Int) : Rat), ((1 : Int) : Rat), ((0 : Int) : Rat)) 1).2.1 = (((1 : Int) : Rat), ((1 : Int) : Rat), ((0 : Int) : Rat)) from by decide +kernel); have hS1 := (show cmpQ (arcR (0, 0, 0) (((1 : Int) : Rat), ((0 : Int) : Rat), ((0 : Int) : Rat)) (((0 : Int) : Rat), ((1 : Int) : Rat), ((0 : Int) : Rat)) 1).2.2.1.1 ((1 : Int) : Rat) ≤ 0 from by decide +kernel); have hS2 := (show cmpQ ((1 : Int) : Rat) (arcR (0, 0, 0) (((1 : Int) : Rat), ((0 : Int) : Rat), ((0 : Int) : Rat)) (((0 : Int) : Rat), ((1 : Int) : Rat), ((0 : Int) : Rat)) 1).2.2.1.2 ≤ 0 from by decide +kernel); And.intro (fun (h1 : (arcR (0, 0, 0) (((1 : Int) : Rat), ((0 : Int) : Rat), ((0 : Int) : Rat)) (((0 : Int) : Rat), ((1 : Int) : Rat), ((0 : Int) : Rat)) 1).2.2.2 = 0) => And.intro (fun (h2 : ((((arcR (0, 0, 0) (((1 : Int) : Rat), ((0 : Int) : Rat), ((0 : Int) : Rat)) (((0 : Int) : Rat), ((1 : Int) : Rat), ((0 : Int) : Rat)) 1).1).2).2).length = 3) => I (by omega : 1 < ((((arcR (0, 0, 0) (((1 : Int) : Rat), ((0 : Int) : Rat), ((0 : Int) : Rat)) (((0 : Int) : Rat), ((1 : Int) : Rat), ((0 : Int) : Rat)) 1).1).2).2).length) (And.intro (fun (h3 : decide (((((((arcR (0, 0, 0) (((1 : Int) : Rat), ((0 : Int) : Rat), ((0 : Int) : Rat)) (((0 : Int) : Rat), ((1 : Int) : Rat), ((0 : Int) : Rat)) 1).1).2).2).getD 1 ((0, (0, 0)), 0)).2) = (((1 : Int) : Rat) / ((2 : Int) : Rat))) = true) => And.intro (fun (h4 : decide (((arcR (0, 0, 0) (((1 : Int) : Rat), ((0 : Int) : Rat), ((0 : Int) : Rat)) (((0 : Int) : Rat), ((1 : Int) : Rat), ((0 : Int) : Rat)) 1).2.1) = (((1 : Int) : Rat), ((1 : Int) : Rat), ((0 : Int) : Rat))) = true) => And.intro (fun (h5 : cmpQ (((arcR (0, 0, 0) (((1 : Int) : Rat), ((0 : Int) : Rat), ((0 : Int) : Rat)) (((0 : Int) : Rat), ((1 : Int) : Rat), ((0 : Int) : Rat)) 1).2.2.1).1) ((1 : Int) : Rat) ≤ 0) => (hS2 : cmpQ ((1 : Int) : Rat) (((arcR (0, 0, 0) (((1 : Int) : Rat), ((0 : Int) : Rat), ((0 : Int) : Rat)) (((0 : Int) : Rat), ((1 : Int) : Rat), ((0 : Int) : Rat)) 1).2.2.1).2) ≤ 0)) (fun (h6 : ¬ (cmpQ (((arcR (0, 0, 0) (((1 : Int) : Rat), ((0 : Int) : Rat), ((0 : Int) : Rat)) (((0 : Int) : Rat), ((1 : Int) : Rat), ((0 : Int) : Rat)) 1).2.2.1).1) ((1 : Int) : Rat) ≤ 0)) => (h6 hS1 : False))) (fun (h7 : ¬ (decide (((arcR (0, 0, 0) (((1 : Int) : Rat), ((0 : Int) : Rat), ((0 : Int) : Rat)) (((0 : Int) : Rat), ((1 : Int) : Rat), ((0 : Int) : Rat)) 1).2.1) = (((1 : Int) : Rat), ((1 : Int) : Rat), ((0 : Int) : Rat))) = true)) => (h7 (decide_eq_true hM) : False))) (fun (h8 : ¬ (decide (((((((arcR (0, 0, 0) (((1 : Int) : Rat), ((0 : Int) : Rat), ((0 : Int) : Rat)) (((0 : Int) : Rat), ((1 : Int) : Rat), ((0 : Int) : Rat)) 1).1).2).2).getD 1 ((0, (0, 0)), 0)).2) = (((1 : Int) : Rat) / ((2 : Int) : Rat))) = true)) => (h8 (decide_eq_true hW) : False)))) (fun (h9 : ¬ (((((arcR (0, 0, 0) (((1 : Int) : Rat), ((0 : Int) : Rat), ((0 : Int) : Rat)) (((0 : Int) : Rat), ((1 : Int) : Rat), ((0 : Int) : Rat)) 1).1).2).2).length = 3)) => (h9 hL : False))) (fun (h10 : ¬ ((arcR (0, 0, 0) (((1 : Int) : Rat), ((0 : Int) : Rat), ((0 : Int) : Rat)) (((0 : Int) : Rat), ((1 : Int) : Rat), ((0 : Int) : Rat)) 1).2.2.2 = 0)) => (h10 hE : False)))))))
def lsane_c : Ctr Tryz.prog := ⟨8, [], [], fun z => [], fun b z => lsane_R b , fun z hx hp => lsane_sig  hx hp, fun _ _ => rfl, fun b z hx hp => lsane_ok b  hx hp⟩
end Go.Proofs.YtcjgaaibflcdiaaGreat.Sx

namespace Go.Proofs.YtcjgaaibflcdiaaGreat.Sx
open Go Go.Proofs
set_option linter.unusedVariables false
set_option linter.unusedSimpArgs false
set_option maxRecDepth 20000
set_option maxHeartbeats 4000000
abbrev larcs_R (b : List Bd) (l : List Int) (k : Int) : WV := .c (.one (.vl (.bool true)))
theorem larcs_ok (b : List Bd) (l : List Int) (k : Int) (hx : Bnds [(.sl (.int .i64)), (.int .i64)] b (l, k)) (hp : ∀ c0 ∈ ([] : List Prop), c0) : (larcs_R b l k).ok := vl_ok rfl
theorem larcs_sig (l : List Int) (k : Int) (hx : Bnds [(.sl (.int .i64)), (.int .i64)] [(.s 9223372036854775807 (.n 9223372036854775808)), (.n 9223372036854775808)] (l, k)) (hp : ∀ c0 ∈ ([] : List Prop), c0) : Sig Tryz.prog 3 (argsE [(.sl (.int .i64)), (.int .i64)] (l, k)) (larcs_R [(.s 9223372036854775807 (.n 9223372036854775808)), (.n 9223372036854775808)] l k).exp := by
  have hl0 : l.length ≤ 9223372036854775807 := hx.1.1
  have he0 : ∀ u ∈ l, Bnd (.int .i64) (.n 9223372036854775808) u := hx.1.2
  have hx1 : Int.natAbs k ≤ 9223372036854775808 := hx.2
  exact sigW hmix Tryz.func3 rfl rfl (by decide) (n := 97) (G := [(7, .c light_c), (8, .c lsane_c), (9, .o droll_c), (10, .b dspot_c), (11, .b dpoint_c), (12, .c dmod_c), (13, .c aArc_c), (14, .c aArcS_c), (15, .c ysamec_c), (16, .c vsamer_c), (17, .c ysame_c)]) hx rfl rfl (larcs_ok _ l k hx hp) (.cond (.nil) (.pre 3 (.bd 0 (.s 1048576 (.n 9223372036854775808))) ((fun (P : Rat × Rat × Rat) => (fun (X : Rat × Rat × Rat) => (fun (Y : Rat × Rat × Rat) => .h 5 3 (.mk (.im (.int .i64) (.n 9223372036854775808))) ((fun (L : Nat) => .cond (.pre 8 (.drop [78, 80, 86, 88]) (.cond (.dead) (.cond (.cond (.dead) (.cond (.dead) (.cond (.dead) (.cond (.dead) (.cond (.pre 8 (.drop [78, 80, 86, 88]) (.cond (.dead) (.cond (.cond (.dead) (.cond (.dead) (.cond (.dead) (.cond (.dead) (.cond (.dead) (.nil)))))) (.cond (.dead) (.nil))))) (.dead)))))) (.cond (.pre 8 (.drop [78, 80, 86, 88]) (.cond (.dead) (.cond (.cond (.dead) (.cond (.dead) (.cond (.dead) (.cond (.dead) (.cond (.dead) (.nil)))))) (.cond (.dead) (.nil))))) (.dead))))) (.dead)) ([k, k % 14].length))) (pointV (pointS (spotS (l, 0))))) (pointV (spotS (l, 0)))) (spotV (l, 0))))) (kcast (by kernel_rfl) (And.intro (fun (h1 : (!(decide (l.length ≤ 500))) = true) => trivial) (fun (h2 : ¬ ((!(decide (l.length ≤ 500))) = true)) => have hl5 := (nd' h2 : l.length ≤ 500); I (⟨by omega, he0⟩ : Bnd (.sl (.int .i64)) (.s 1048576 (.n 9223372036854775808)) l) ((fun (P : Rat × Rat × Rat) (hP0 : P = spotV (l, 0)) => (fun (X : Rat × Rat × Rat) (hX0 : X = pointV (spotS (l, 0))) => (fun (Y : Rat × Rat × Rat) (hY0 : Y = pointV (pointS (spotS (l, 0)))) => have hP := (show Bnd tV3 (bV3 16) P from by rw [hP0]; exact v3_le (spotV_b _) (by omega)); have hX := (show Bnd tV3 (bV3 16) X from by rw [hX0]; exact v3_le (pointV_b _) (by omega)); have hY := (show Bnd tV3 (bV3 16) Y from by rw [hY0]; exact v3_le (pointV_b _) (by omega)); I (by omega : (0 : Int) < 14) ((fun (L : Nat) (hL0 : L = [k, k % 14].length) => have hL := (show L = 2 from by rw [hL0]; rfl); And.intro (fun (h3 : 0 < L) => I (by (try simp only [List.length_append, List.length_cons, List.length_nil]) <;> omega : 0 < [k, k % 14].length) (I (hP : Bnd tV3 (bV3 16) P) (I (hX : Bnd tV3 (bV3 16) X) (I (hY : Bnd tV3 (bV3 16) Y) (I (hP : Bnd tV3 (bV3 16) P) (I (hX : Bnd tV3 (bV3 16) X) (I (hY : Bnd tV3 (bV3 16) Y) (And.intro (fun (h4 : (arcR P X Y ([k, k % 14].getD 0 0)).2.2.2 ≠ (arcR P X Y ([k, k % 14].getD 0 0)).2.2.2) => (h4 rfl : False)) (fun (h5 : ¬ ((arcR P X Y ([k, k % 14].getD 0 0)).2.2.2 ≠ (arcR P X Y ([k, k % 14].getD 0 0)).2.2.2)) => And.intro (fun (h6 : (arcR P X Y ([k, k % 14].getD 0 0)).2.2.2 = 0) => And.intro (fun (h7 : (!(decide (((arcR P X Y ([k, k % 14].getD 0 0)).1) = ((arcR P X Y ([k, k % 14].getD 0 0)).1)))) = true) => (nd h7 rfl : False)) (fun (h8 : ¬ ((!(decide (((arcR P X Y ([k, k % 14].getD 0 0)).1) = ((arcR P X Y ([k, k % 14].getD 0 0)).1)))) = true)) => And.intro (fun (h9 : (!(decide (((arcR P X Y ([k, k % 14].getD 0 0)).2.1) = ((arcR P X Y ([k, k % 14].getD 0 0)).2.1)))) = true) => (nd h9 rfl : False)) (fun (h10 : ¬ ((!(decide (((arcR P X Y ([k, k % 14].getD 0 0)).2.1) = ((arcR P X Y ([k, k % 14].getD 0 0)).2.1)))) = true)) => And.intro (fun (h11 : (!(decide ((((arcR P X Y ([k, k % 14].getD 0 0)).2.2.1).1) = (((arcR P X Y ([k, k % 14].getD 0 0)).2.2.1).1)))) = true) => (nd h11 rfl : False)) (fun (h12 : ¬ ((!(decide ((((arcR P X Y ([k, k % 14].getD 0 0)).2.2.1).1) = (((arcR P X Y ([k, k % 14].getD 0 0)).2.2.1).1)))) = true)) => And.intro (fun (h13 : (!(decide ((((arcR P X Y ([k, k % 14].getD 0 0)).2.2.1).2) = (((arcR P X Y ([k, k % 14].getD 0 0)).2.2.1).2)))) = true) => (nd h13 rfl : False)) (fun (h14 : ¬ ((!(decide ((((arcR P X Y ([k, k % 14].getD 0 0)).2.2.1).2) = (((arcR P X Y ([k, k % 14].getD 0 0)).2.2.1).2)))) = true)) => And.intro (fun (h15 : 1 < L) => I (by (try simp only [List.length_append, List.length_cons, List.length_nil]) <;> omega : 1 < [k, k % 14].length) (I (hP : Bnd tV3 (bV3 16) P) (I (hX : Bnd tV3 (bV3 16) X) (I (hY : Bnd tV3 (bV3 16) Y) (I (hP : Bnd tV3 (bV3 16) P) (I (hX : Bnd tV3 (bV3 16) X) (I (hY : Bnd tV3 (bV3 16) Y) (And.intro (fun (h16 : (arcR P X Y ([k, k % 14].getD 1 0)).2.2.2 ≠ (arcR P X Y ([k, k % 14].getD 1 0)).2.2.2) => (h16 rfl : False)) (fun (h17 : ¬ ((arcR P X Y ([k, k % 14].getD 1 0)).2.2.2 ≠ (arcR P X Y ([k, k % 14].getD 1 0)).2.2.2)) => And.intro (fun (h18 : (arcR P X Y ([k, k % 14].getD 1 0)).2.2.2 = 0) => And.intro (fun (h19 : (!(decide (((arcR P X Y ([k, k % 14].getD 1 0)).1) = ((arcR P X Y ([k, k % 14].getD 1 0)).1)))) = true) => (nd h19 rfl : False)) (fun (h20 : ¬ ((!(decide (((arcR P X Y ([k, k % 14].getD 1 0)).1) = ((arcR P X Y ([k, k % 14].getD 1 0)).1)))) = true)) => And.intro (fun (h21 : (!(decide (((arcR P X Y ([k, k % 14].getD 1 0)).2.1) = ((arcR P X Y ([k, k % 14].getD 1 0)).2.1)))) = true) => (nd h21 rfl : False)) (fun (h22 : ¬ ((!(decide (((arcR P X Y ([k, k % 14].getD 1 0)).2.1) = ((arcR P X Y ([k, k % 14].getD 1 0)).2.1)))) = true)) => And.intro (fun (h23 : (!(decide ((((arcR P X Y ([k, k % 14].getD 1 0)).2.2.1).1) = (((arcR P X Y ([k, k % 14].getD 1 0)).2.2.1).1)))) = true) => (nd h23 rfl : False)) (fun (h24 : ¬ ((!(decide ((((arcR P X Y ([k, k % 14].getD 1 0)).2.2.1).1) = (((arcR P X Y ([k, k % 14].getD 1 0)).2.2.1).1)))) = true)) => And.intro (fun (h25 : (!(decide ((((arcR P X Y ([k, k % 14].getD 1 0)).2.2.1).2) = (((arcR P X Y ([k, k % 14].getD 1 0)).2.2.1).2)))) = true) => (nd h25 rfl : False)) (fun (h26 : ¬ ((!(decide ((((arcR P X Y ([k, k % 14].getD 1 0)).2.2.1).2) = (((arcR P X Y ([k, k % 14].getD 1 0)).2.2.1).2)))) = true)) => And.intro (fun (h27 : 2 < L) => (by omega : False)) (fun (h28 : ¬ (2 < L)) => trivial)))))) (fun (h29 : ¬ ((arcR P X Y ([k, k % 14].getD 1 0)).2.2.2 = 0)) => And.intro (fun (h30 : 2 < L) => (by omega : False)) (fun (h31 : ¬ (2 < L)) => trivial))))))))))) (fun (h32 : ¬ (1 < L)) => (by omega : False))))))) (fun (h33 : ¬ ((arcR P X Y ([k, k % 14].getD 0 0)).2.2.2 = 0)) => And.intro (fun (h34 : 1 < L) => I (by (try simp only [List.length_append, List.length_cons, List.length_nil]) <;> omega : 1 < [k, k % 14].length) (I (hP : Bnd tV3 (bV3 16) P) (I (hX : Bnd tV3 (bV3 16) X) (I (hY : Bnd tV3 (bV3 16) Y) (I (hP : Bnd tV3 (bV3 16) P) (I (hX : Bnd tV3 (bV3 16) X) (I (hY : Bnd tV3 (bV3 16) Y) (And.intro (fun (h35 : (arcR P X Y ([k, k % 14].getD 1 0)).2.2.2 ≠ (arcR P X Y ([k, k % 14].getD 1 0)).2.2.2) => (h35 rfl : False)) (fun (h36 : ¬ ((arcR P X Y ([k, k % 14].getD 1 0)).2.2.2 ≠ (arcR P X Y ([k, k % 14].getD 1 0)).2.2.2)) => And.intro (fun (h37 : (arcR P X Y ([k, k % 14].getD 1 0)).2.2.2 = 0) => And.intro (fun (h38 : (!(decide (((arcR P X Y ([k, k % 14].getD 1 0)).1) = ((arcR P X Y ([k, k % 14].getD 1 0)).1)))) = true) => (nd h38 rfl : False)) (fun (h39 : ¬ ((!(decide (((arcR P X Y ([k, k % 14].getD 1 0)).1) = ((arcR P X Y ([k, k % 14].getD 1 0)).1)))) = true)) => And.intro (fun (h40 : (!(decide (((arcR P X Y ([k, k % 14].getD 1 0)).2.1) = ((arcR P X Y ([k, k % 14].getD 1 0)).2.1)))) = true) => (nd h40 rfl : False)) (fun (h41 : ¬ ((!(decide (((arcR P X Y ([k, k % 14].getD 1 0)).2.1) = ((arcR P X Y ([k, k % 14].getD 1 0)).2.1)))) = true)) => And.intro (fun (h42 : (!(decide ((((arcR P X Y ([k, k % 14].getD 1 0)).2.2.1).1) = (((arcR P X Y ([k, k % 14].getD 1 0)).2.2.1).1)))) = true) => (nd h42 rfl : False)) (fun (h43 : ¬ ((!(decide ((((arcR P X Y ([k, k % 14].getD 1 0)).2.2.1).1) = (((arcR P X Y ([k, k % 14].getD 1 0)).2.2.1).1)))) = true)) => And.intro (fun (h44 : (!(decide ((((arcR P X Y ([k, k % 14].getD 1 0)).2.2.1).2) = (((arcR P X Y ([k, k % 14].getD 1 0)).2.2.1).2)))) = true) => (nd h44 rfl : False)) (fun (h45 : ¬ ((!(decide ((((arcR P X Y ([k, k % 14].getD 1 0)).2.2.1).2) = (((arcR P X Y ([k, k % 14].getD 1 0)).2.2.1).2)))) = true)) => And.intro (fun (h46 : 2 < L) => (by omega : False)) (fun (h47 : ¬ (2 < L)) => trivial)))))) (fun (h48 : ¬ ((arcR P X Y ([k, k % 14].getD 1 0)).2.2.2 = 0)) => And.intro (fun (h49 : 2 < L) => (by omega : False)) (fun (h50 : ¬ (2 < L)) => trivial))))))))))) (fun (h51 : ¬ (1 < L)) => (by omega : False)))))))))))) (fun (h52 : ¬ (0 < L)) => (by omega : False))) ([k, k % 14].length) rfl)) (pointV (pointS (spotS (l, 0)))) rfl) (pointV (spotS (l, 0))) rfl) (spotV (l, 0)) rfl))))
end Go.Proofs.YtcjgaaibflcdiaaGreat.Sx
