/-
Own laws and walks for the claim, part 4: WRl, WRl2, WRl3, WXl, WXl2, WYl, WVl, WDl, WDa1, WNat1, WNat2, WNat3, WNat4, WNat5, WNat6, WRat1, WRat2, WRat3, WRat4, WAdd64, WRat5, WRat6, WRat7, WRat8, WRef1, WRef2, WRef3. No condition.
-/
import Derived.Test.YtcjgaaibflcdiaaGreatC3

namespace Go.Proofs.YtcjgaaibflcdiaaGreat.Sx
open Go
set_option linter.unusedVariables false
def sgI (neg : Bool) (n : Nat) : Int := if neg then -(n : Int) else n
def sgQ (neg : Bool) (n d : Nat) : Rat := mkRat (sgI neg n) d
theorem sgI_abs (neg : Bool) (n : Nat) : (sgI neg n).natAbs = n := by unfold sgI; split <;> simp
theorem sgQ_zero (neg : Bool) (d : Nat) : sgQ neg 0 d = 0 := by unfold sgQ sgI; cases neg <;> simp
theorem sgQ_d0 (neg : Bool) (n : Nat) : sgQ neg n 0 = 0 := by unfold sgQ; simp [Rat.mkRat_zero]
theorem sgQ_norm {neg : Bool} {n d : Nat} (hd : 0 < d) : (sgQ neg n d).num = sgI neg n / ((Nat.gcd n d : Nat) : Int) ∧ (sgQ neg n d).den = d / Nat.gcd n d := by
  have h : sgQ neg n d = Rat.normalize (sgI neg n) d (by omega) := (Rat.normalize_eq_mkRat (by omega)).symm
  have e := Rat.normalize_eq (num := sgI neg n) (den := d) (by omega)
  rw [h, e]
  refine ⟨?_, ?_⟩
  · show sgI neg n / (((sgI neg n).natAbs.gcd d : Nat) : Int) = _
    rw [sgI_abs]
  · show d / (sgI neg n).natAbs.gcd d = _
    rw [sgI_abs]
theorem sgQ_abs {neg : Bool} {n d : Nat} (hd : 0 < d) : (sgQ neg n d).num.natAbs = n / Nat.gcd n d := by
  rw [(sgQ_norm hd).1]
  unfold sgI
  have hg : (Nat.gcd n d) ∣ n := Nat.gcd_dvd_left n d
  obtain ⟨k, hk⟩ := hg
  have hg0 : 0 < Nat.gcd n d := Nat.gcd_pos_of_pos_right _ hd
  generalize Nat.gcd n d = g at *
  subst hk
  rw [Nat.mul_div_cancel_left _ hg0]
  split
  · rw [Int.natCast_mul, ← Int.mul_neg, Int.mul_ediv_cancel_left _ (by omega)]; simp
  · rw [Int.natCast_mul, Int.mul_ediv_cancel_left _ (by omega)]; simp
theorem sgQ_neg {neg : Bool} {n d : Nat} (hn : 0 < n) (hd : 0 < d) : decide ((sgQ neg n d).num < 0) = neg := by
  rw [(sgQ_norm hd).1]
  have hg0 : 0 < Nat.gcd n d := Nat.gcd_pos_of_pos_right _ hd
  obtain ⟨k, hk⟩ := Nat.gcd_dvd_left n d
  generalize Nat.gcd n d = g at *
  subst hk
  have hk0 : 0 < k := Nat.pos_of_ne_zero (fun e => by subst e; simp at hn)
  unfold sgI
  cases neg
  · simp only [Bool.false_eq_true, if_false, Int.natCast_mul, Int.mul_ediv_cancel_left _ (show (g : Int) ≠ 0 by omega)]
    simp
  · simp only [if_true]
    rw [Int.natCast_mul, ← Int.mul_neg, Int.mul_ediv_cancel_left _ (by omega)]
    simp; omega
theorem sgI_mul (a b : Bool) (n m : Nat) : sgI a n * sgI b m = sgI (decide (a ≠ b)) (n * m) := by
  cases a <;> cases b <;> simp [sgI, Int.natCast_mul, Int.neg_mul, Int.mul_neg]
theorem sgI_self (z : Int) : sgI (decide (z < 0)) z.natAbs = z := by
  unfold sgI; split <;> simp_all <;> omega
theorem sgQ_self (x : Rat) : sgQ (decide (x.num < 0)) x.num.natAbs x.den = x := by
  unfold sgQ; rw [sgI_self]; exact Rat.mkRat_self x
theorem sgQ_mul (a b : Bool) (n m d e : Nat) : sgQ a n d * sgQ b m e = sgQ (decide (a ≠ b)) (n * m) (d * e) := by
  unfold sgQ; rw [Rat.mkRat_mul_mkRat, sgI_mul]
theorem rat_mul (x y : Rat) : sgQ (decide (decide (x.num < 0) ≠ decide (y.num < 0))) (x.num.natAbs * y.num.natAbs) (x.den * y.den) = x * y := by
  rw [← sgQ_mul, sgQ_self, sgQ_self]
theorem sgQ_add (a b : Bool) (n m : Nat) {d e : Nat} (hd : 0 < d) (he : 0 < e) : sgQ a n d + sgQ b m e = mkRat (sgI a (n * e) + sgI b (m * d)) (d * e) := by
  unfold sgQ
  rw [Rat.mkRat_add_mkRat _ _ (by omega) (by omega)]
  congr 1
  unfold sgI
  cases a <;> cases b <;> simp [Int.natCast_mul, Int.neg_mul]
theorem sgI_same (a : Bool) (n m : Nat) : sgI a n + sgI a m = sgI a (n + m) := by cases a <;> simp [sgI] <;> omega
theorem sgI_ge {a b : Bool} (h : a ≠ b) {n m : Nat} (hm : m ≤ n) : sgI a n + sgI b m = sgI a (n - m) := by
  cases a <;> cases b <;> simp_all [sgI] <;> omega
theorem sgI_le {a b : Bool} (h : a ≠ b) {n m : Nat} (hm : n ≤ m) : sgI a n + sgI b m = sgI b (m - n) := by
  cases a <;> cases b <;> simp_all [sgI] <;> omega
theorem sgQ_bnd {neg : Bool} {n d p : Nat} (hn : lt2 n p) (hd : le2 d p) (h0 : 0 < d) : Bnd .rat (.n p) (sgQ neg n d) := by
  show lt2 _ _ ∧ le2 _ _
  rw [sgQ_abs h0, (sgQ_norm h0).2]
  exact ⟨lt2_le hn (Nat.div_le_self _ _), Nat.le_trans (Nat.div_le_self _ _) hd⟩
theorem lt2_log {x b : Nat} (h : x ≤ b) : lt2 x (Nat.log2 b + 1) := Nat.lt_of_le_of_lt h Nat.lt_log2_self
theorem agg_rat {b : Bd} {x : Rat} (h : Bnd .rat b x) : (WV.c (.agg [.dt .rat b x])).ok := agg_ok h
def nlw (v : Nat) : Nat := if v / 2 ^ 32 = 0 then 1 else 2
def putW (l : List Nat) (lo v : Nat) : List Nat := if v / 2 ^ 32 = 0 then l.set (lo + 0) (v % 4294967296) else (l.set (lo + 0) (v % 4294967296)).set (lo + 1) (v / 2 ^ 32)
theorem nlw_le (v : Nat) : 1 ≤ nlw v ∧ nlw v ≤ 2 := by unfold nlw; split <;> omega
theorem putW_len (l : List Nat) (lo v : Nat) : (putW l lo v).length = l.length := by unfold putW; split <;> simp
theorem putW_bnd {l : List Nat} {lo v : Nat} (hv : v ≤ 18446744073709551615) (h : ∀ u ∈ l, Bnd (.nat .u32) (.n 4294967295) u) : ∀ u ∈ putW l lo v, Bnd (.nat .u32) (.n 4294967295) u := by
  have h1 := all_set (n := lo + 0) (u32_lt' h) (Nat.mod_lt v (show 0 < 4294967296 by omega))
  unfold putW
  split
  · exact fun u hu => Nat.le_of_lt_succ (h1 u hu)
  · exact fun u hu => Nat.le_of_lt_succ (all_set h1 (show v / 2 ^ 32 < 4294967296 by omega) u hu)
theorem limbs_w {v : Nat} (h0 : 0 < v) (hv : v ≤ 18446744073709551615) : limbs v = if v / 2 ^ 32 = 0 then [v % 4294967296] else [v % 4294967296, v / 2 ^ 32] := by
  rw [limbs_pos (by omega)]
  split
  · rename_i h
    rw [show v / 4294967296 = 0 by omega]; rw [limbs_zero]
  · rename_i h
    rw [limbs_pos (n := v / 4294967296) (by omega)]
    rw [show v / 4294967296 / 4294967296 = 0 by omega, limbs_zero, Nat.mod_eq_of_lt (show v / 4294967296 < 4294967296 by omega)]
theorem short_n {n : Nat} (h0 : 0 < n) (hn : n ≤ 18446744073709551615) : (putW (List.replicate 4 (0 : Nat)) 0 n).take (nlw n) = limbs n := by
  rw [limbs_w h0 hn]; unfold putW nlw
  split <;> simp [List.replicate]
theorem short_n2 {n d : Nat} (h0 : 0 < n) (hn : n ≤ 18446744073709551615) : (putW (putW (List.replicate 4 (0 : Nat)) 0 n) (nlw n) d).take (nlw n) = limbs n := by
  rw [limbs_w h0 hn]; unfold putW nlw
  split <;> split <;> simp [List.replicate]
theorem short_d {n d : Nat} (h0 : 0 < d) (hd : d ≤ 18446744073709551615) : ((putW (putW (List.replicate 4 (0 : Nat)) 0 n) (nlw n) d).drop (nlw n)).take (nlw n + nlw d - nlw n) = limbs d := by
  rw [limbs_w h0 hd, Nat.add_sub_cancel_left]; unfold putW nlw
  split <;> split <;> simp [List.replicate]
theorem denL_one {d : Nat} (h0 : d ≠ 0) (h : (denL d).length = 0) : d = 1 := by
  unfold denL at h
  split at h
  · assumption
  · exact absurd (nl0.1 h) h0
theorem denL_limbs {d : Nat} (h : ¬ (denL d).length = 0) : denL d = limbs d := by
  unfold denL at h ⊢
  split
  · rename_i e; rw [if_pos e] at h; exact absurd rfl h
  · rfl
theorem gcd_max {a b p q : Nat} (ha : a ≤ p) (hb : b ≤ q) : Nat.gcd a b ≤ max p q := by
  rcases Nat.eq_zero_or_pos a with e | e
  · subst e; rw [Nat.gcd_zero_left]; omega
  · have := Nat.gcd_le_left b e; omega
theorem one_of {E : Nat} (h1 : (limbs E).length = 1) (h2 : (limbs E).getD 0 0 = 1) : E = 1 := by
  have := limbs_last (x := E) (by omega)
  rw [h1] at this
  simp only [Nat.sub_self, List.take_zero, valL, h2] at this
  omega
theorem red_den {D E : Nat} (h : E = D) (hn : ¬ ((limbs E).length = 1 ∧ (limbs E).getD 0 0 = 1)) : limbs E = denL D := by
  subst h
  unfold denL
  rw [if_neg]
  intro e; subst e; exact hn ⟨nl_one, by rw [limbs_one]; rfl⟩
theorem limb0 {E : Nat} (h1 : (limbs E).length = 1) : (limbs E).getD 0 0 = E := by
  have := limbs_last (x := E) (by omega)
  rw [h1] at this
  simp only [Nat.sub_self, List.take_zero, valL, Nat.pow_zero, Nat.one_mul, Nat.zero_add] at this
  exact this.symm
def bigQ (x : Rat) : Prop := 1 < (limbs x.num.natAbs).length ∨ 1 < (denL x.den).length
instance (x : Rat) : Decidable (bigQ x) := by unfold bigQ; infer_instance
def pn (x : Rat) : Nat := if bigQ x then 0 else x.num.natAbs
def pd (x : Rat) : Nat := if bigQ x then 0 else x.den
def pb (x : Rat) : Bool := decide (¬ bigQ x)
theorem nl1_lt {x : Nat} (h : (limbs x).length ≤ 1) : x < 4294967296 := by
  have h1 := valL_lt (limbs x) (limbs_lt x)
  rw [valL_limbs] at h1
  exact Nat.lt_of_lt_of_le h1 (Nat.pow_le_pow_right (n := 4294967296) (by omega) h)
theorem pn_le (x : Rat) : pn x ≤ 4294967295 := by
  unfold pn; split
  · omega
  · rename_i h; unfold bigQ at h; exact Nat.le_of_lt_succ (nl1_lt (by omega))
theorem denL_lt1 {d : Nat} (h : (denL d).length ≤ 1) : d < 4294967296 := by
  unfold denL at h; split at h
  · omega
  · exact nl1_lt h
theorem pd_le (x : Rat) : pd x ≤ 4294967295 := by
  unfold pd; split
  · omega
  · rename_i h; unfold bigQ at h; exact Nat.le_of_lt_succ (denL_lt1 (by omega))
theorem p_big {x : Rat} (h : bigQ x) : 0 = pn x ∧ 0 = pd x ∧ false = pb x := by simp [pn, pd, pb, h]
theorem p_sm {x : Rat} (h : ¬ bigQ x) : x.num.natAbs = pn x ∧ x.den = pd x ∧ pb x = true := by simp [pn, pd, pb, h]
theorem pb_eq {x : Rat} (h : pb x = true) : pn x = x.num.natAbs ∧ pd x = x.den ∧ 0 < pd x := by
  have h : ¬ bigQ x := by simpa [pb] using h
  have := p_sm h
  have := x.den_nz
  omega
theorem denL_1 {d : Nat} (h : (denL d).length = 1) : (denL d).getD 0 0 = d := by
  have h' : ¬ (denL d).length = 0 := by omega
  rw [denL_limbs h'] at h ⊢
  exact limb0 h
theorem sgQ_bnd0 {neg : Bool} {n d p : Nat} (hn : lt2 n p) (hd : lt2 d p) : Bnd .rat (.n p) (sgQ neg n d) := by
  rcases Nat.eq_zero_or_pos d with e | e
  · subst e; rw [sgQ_d0]
    exact ⟨Nat.pow_pos (by decide), Nat.pow_pos (by decide)⟩
  · exact sgQ_bnd hn (lt2_le2 hd) e
theorem bl_one {g : Nat} (h0 : 0 < g) (h : bl g ≤ 1) : g = 1 := by
  have h1 := bl_lt g
  have h2 : 2 ^ bl g ≤ 2 ^ 1 := Nat.pow_le_pow_right (by decide) h
  omega
theorem rat_mul_bnd {x y : Rat} {b c : Bd} (hx : Bnd .rat b x) (hy : Bnd .rat c y) : Bnd .rat (.n (b.nb + c.nb)) (x * y) := by
  rw [← rat_mul]
  exact sgQ_bnd (lt2_mul hx.rat.1 hy.rat.1) (le2_mul hx.rat.2 hy.rat.2) (Nat.mul_pos x.den_pos y.den_pos)
theorem rat_num0 {x : Rat} (h : x.num.natAbs = 0) : x = 0 := by
  have : x.num = 0 := Int.natAbs_eq_zero.1 h
  exact Rat.num_eq_zero.1 this
theorem sgQ_int (v : Int) : sgQ (decide (v < 0)) v.natAbs 1 = (v : Rat) := by
  unfold sgQ; rw [sgI_self]; exact (Rat.mkRat_one v)
theorem int_bnd {v : Int} {b : Nat} (h : v.natAbs ≤ b) : Bnd .rat (.n (Nat.log2 b + 1)) (v : Rat) := by
  rw [← sgQ_int]; exact sgQ_bnd (lt2_log h) (Nat.one_le_two_pow) (by decide)
def sgnQ (x : Rat) : Int := if x.num.natAbs = 0 then 0 else if x.num < 0 then -1 else 1
theorem sgnQ_abs (x : Rat) : (sgnQ x).natAbs ≤ 1 := by
  unfold sgnQ; split
  · decide
  · split <;> decide
theorem eq_take {l m : List Nat} {i : Nat} (hl : l.length = m.length) (h : l.take i = m.take i) (hi : i < l.length) : (l.getD i 0 = m.getD i 0 → l.take (i + 1) = m.take (i + 1)) ∧ (l.getD i 0 ≠ m.getD i 0 → l ≠ m) := by
  refine ⟨fun e => ?_, fun e e2 => e (by rw [e2])⟩
  rw [List.take_succ_eq_append_getElem hi, List.take_succ_eq_append_getElem (by omega), h]
  simp only [List.getD_eq_getElem?_getD, List.getElem?_eq_getElem hi, List.getElem?_eq_getElem (show i < m.length by omega), Option.getD_some] at e
  rw [e]
theorem quo_sg {x y : Rat} (h : y.num.natAbs ≠ 0) : sgQ (decide (decide (x.num < 0) ≠ decide (y.num < 0))) (x.num.natAbs * y.den) (x.den * y.num.natAbs) = x / y := by
  have e : y⁻¹ = sgQ (decide (y.num < 0)) y.den y.num.natAbs := by
    conv => lhs; rw [← Rat.num_divInt_den y]
    rw [Rat.inv_divInt]
    unfold sgQ sgI
    by_cases hn : y.num < 0
    · simp only [hn, decide_true, if_true]
      rw [← Rat.divInt_ofNat, ← Rat.neg_divInt_neg]
      congr 1; omega
    · simp only [hn, decide_false, Bool.false_eq_true, if_false]
      rw [← Rat.divInt_ofNat]
      congr 1; omega
  rw [Rat.div_def, e]
  conv => rhs; rw [← sgQ_self x]
  rw [sgQ_mul]
end Go.Proofs.YtcjgaaibflcdiaaGreat.Sx

namespace Go.Proofs.YtcjgaaibflcdiaaGreat.Sx
open Go
set_option linter.unusedVariables false
def yQ (s : Bool) (y : Rat) : Rat := sgQ s y.num.natAbs y.den
theorem yQ_self (y : Rat) : yQ (decide (y.num < 0)) y = y := sgQ_self y
theorem yQ_neg (y : Rat) : yQ (!decide (y.num < 0)) y = -y := by
  have h : -y = mkRat (-y.num) y.den := by rw [← Rat.neg_mkRat, Rat.mkRat_self]
  by_cases h0 : y.num.natAbs = 0
  · have := rat_num0 h0
    subst this; rfl
  · rw [h]; unfold yQ sgQ sgI
    congr 1
    by_cases hn : y.num < 0
    · simp [hn]; omega
    · simp [hn]; omega
theorem add_eq (s : Bool) (x y : Rat) : x + yQ s y = mkRat (sgI (decide (x.num < 0)) (x.num.natAbs * y.den) + sgI s (y.num.natAbs * x.den)) (x.den * y.den) := by
  conv => lhs; rw [← sgQ_self x]
  exact sgQ_add _ _ _ _ x.den_pos y.den_pos
theorem add_sm {s : Bool} {x y : Rat} (h : decide (x.num < 0) = s) : sgQ s (x.num.natAbs * y.den + y.num.natAbs * x.den) (x.den * y.den) = x + yQ s y := by
  rw [add_eq, h, sgI_same]; rfl
theorem add_ge {s : Bool} {x y : Rat} (h : decide (x.num < 0) ≠ s) (hm : y.num.natAbs * x.den ≤ x.num.natAbs * y.den) : sgQ (decide (x.num < 0)) (x.num.natAbs * y.den - y.num.natAbs * x.den) (x.den * y.den) = x + yQ s y := by
  rw [add_eq, sgI_ge h hm]; rfl
theorem add_le {s : Bool} {x y : Rat} (h : decide (x.num < 0) ≠ s) (hm : x.num.natAbs * y.den ≤ y.num.natAbs * x.den) : sgQ s (y.num.natAbs * x.den - x.num.natAbs * y.den) (x.den * y.den) = x + yQ s y := by
  rw [add_eq, sgI_le h hm]; rfl
theorem sgQ_scale (s : Bool) (n d e : Nat) (he : 0 < e) : sgQ s (n * e) (d * e) = sgQ s n d := by
  rcases Nat.eq_zero_or_pos d with h | h
  · subst h; rw [Nat.zero_mul, sgQ_d0, sgQ_d0]
  · unfold sgQ
    rw [Rat.mkRat_eq_iff (Nat.ne_of_gt (Nat.mul_pos h he)) (Nat.ne_of_gt h)]
    have e1 : sgI s (n * e) = sgI s n * (e : Int) := by unfold sgI; cases s <;> simp [Int.natCast_mul, Int.neg_mul]
    rw [e1, Int.natCast_mul, Int.mul_assoc, Int.mul_comm (e : Int)]
theorem add_sm' {s : Bool} {x y : Rat} (hd : x.den = y.den) (h : decide (x.num < 0) = s) : sgQ s (x.num.natAbs + y.num.natAbs) x.den = x + yQ s y := by
  rw [← add_sm h, ← hd, ← Nat.add_mul, sgQ_scale _ _ _ _ x.den_pos]
theorem add_ge' {s : Bool} {x y : Rat} (hd : x.den = y.den) (h : decide (x.num < 0) ≠ s) (hm : y.num.natAbs ≤ x.num.natAbs) : sgQ (decide (x.num < 0)) (x.num.natAbs - y.num.natAbs) x.den = x + yQ s y := by
  rw [← add_ge h (by rw [hd]; exact Nat.mul_le_mul_right _ hm), ← hd, ← Nat.sub_mul, sgQ_scale _ _ _ _ x.den_pos]
theorem add_le' {s : Bool} {x y : Rat} (hd : x.den = y.den) (h : decide (x.num < 0) ≠ s) (hm : x.num.natAbs ≤ y.num.natAbs) : sgQ s (y.num.natAbs - x.num.natAbs) x.den = x + yQ s y := by
  rw [← add_le h (by rw [hd]; exact Nat.mul_le_mul_right _ hm), ← hd, ← Nat.sub_mul, sgQ_scale _ _ _ _ x.den_pos]
theorem denL_inj {d e : Nat} (hd : d ≠ 0) (he : e ≠ 0) (h : denL d = denL e) : d = e := by
  by_cases h1 : d = 1
  · subst h1
    have : (denL e).length = 0 := by rw [← h]; rfl
    exact (denL_one he this).symm
  · by_cases h2 : e = 1
    · subst h2
      exact denL_one hd (by rw [h]; rfl)
    · unfold denL at h
      rw [if_neg h1, if_neg h2] at h
      have := congrArg valL h
      rwa [valL_limbs, valL_limbs] at this
theorem lt2_mul' {x y a b : Nat} (h : lt2 x a) (k : le2 y b) : lt2 (x * y) (a + b) := by
  unfold lt2 le2 at *
  rw [Nat.pow_add]
  exact Nat.lt_of_le_of_lt (Nat.mul_le_mul_left _ k) (Nat.mul_lt_mul_of_pos_right h (Nat.pow_pos (by decide)))
theorem add_bnd {s : Bool} {x y : Rat} {b c : Bd} (hx : Bnd .rat b x) (hy : Bnd .rat c y) : Bnd .rat (.n (b.nb + c.nb + 1)) (x + yQ s y) := by
  have h1 := lt2_mul' hx.rat.1 hy.rat.2
  have h2 := lt2_mul' hy.rat.1 hx.rat.2
  have h3 := le2_mul hx.rat.2 hy.rat.2
  have h4 : lt2 (x.num.natAbs * y.den + y.num.natAbs * x.den) (b.nb + c.nb + 1) := by
    rw [Nat.add_comm c.nb] at h2
    have := lt2_add h1 h2
    rwa [Nat.max_self] at this
  have hp := Nat.mul_pos x.den_pos y.den_pos
  have h5 : le2 (x.den * y.den) (b.nb + c.nb + 1) := le2_mono (Nat.le_succ _) h3
  by_cases e : decide (x.num < 0) = s
  · rw [← add_sm e]; exact sgQ_bnd h4 h5 hp
  · rcases Nat.le_total (y.num.natAbs * x.den) (x.num.natAbs * y.den) with hm | hm
    · rw [← add_ge e hm]; exact sgQ_bnd (lt2_le h4 (by omega)) h5 hp
    · rw [← add_le e hm]; exact sgQ_bnd (lt2_le h4 (by omega)) h5 hp
def cy (a b : Nat) : Nat := (a + b) / 18446744073709551616
theorem cy_le {a b : Nat} (h : a ≤ 4294967295 * 4294967295) (k : b ≤ 4294967295 * 4294967295) : cy a b ≤ 1 := by unfold cy; omega
theorem cy_mod {a b : Nat} (h : cy a b = 0) : (a + b) % 18446744073709551616 = a + b := by unfold cy at h; omega
theorem add_bnd' {x y : Rat} {b c : Bd} (hx : Bnd .rat b x) (hy : Bnd .rat c y) : Bnd .rat (.n (b.nb + c.nb + 1)) (x + y) := by
  have := add_bnd (s := decide (y.num < 0)) hx hy
  rwa [yQ_self] at this
theorem sub_bnd' {x y : Rat} {b c : Bd} (hx : Bnd .rat b x) (hy : Bnd .rat c y) : Bnd .rat (.n (b.nb + c.nb + 1)) (x - y) := by
  have := add_bnd (s := !decide (y.num < 0)) hx hy
  rwa [yQ_neg, ← Rat.sub_eq_add_neg] at this
theorem quo_bnd {x y : Rat} {b c : Bd} (hx : Bnd .rat b x) (hy : Bnd .rat c y) : Bnd .rat (.n (b.nb + c.nb)) (x / y) := by
  by_cases h : y.num.natAbs = 0
  · rw [rat_num0 h, Rat.div_def, Rat.inv_zero, Rat.mul_zero]
    exact ⟨Nat.pow_pos (by decide), Nat.pow_pos (by decide)⟩
  · rw [← quo_sg h]
    have h2 := lt2_mul' hy.rat.1 hx.rat.2
    rw [Nat.add_comm, Nat.mul_comm] at h2
    exact sgQ_bnd (lt2_mul' hx.rat.1 hy.rat.2) (lt2_le2 h2) (Nat.mul_pos x.den_pos (by omega))
theorem quo_0 {x y : Rat} (h : y.num.natAbs = 0) : 0 = x / y := by rw [rat_num0 h, Rat.div_def, Rat.inv_zero, Rat.mul_zero]
def quoC (y : Rat) : Int := if y.num.natAbs = 0 then 3 else 0
theorem quoC_b (y : Rat) : (quoC y).natAbs ≤ 3 := by unfold quoC; split <;> decide
theorem sgnQ_0 {y : Rat} : sgnQ y = 0 ↔ y.num.natAbs = 0 := by
  unfold sgnQ; split
  · simp_all
  · split <;> simp_all
end Go.Proofs.YtcjgaaibflcdiaaGreat.Sx

namespace Go.Proofs.YtcjgaaibflcdiaaGreat.Sx
open Go
set_option linter.unusedVariables false
def cmpQ (x y : Rat) : Int := if x < y then -1 else if x = y then 0 else 1
theorem cmpQ_abs (x y : Rat) : (cmpQ x y).natAbs ≤ 1 := by
  unfold cmpQ; split
  · decide
  · split <;> decide
def cmpL (x y : Rat) : Int := cmpN (x.num.natAbs * y.den) (y.num.natAbs * x.den)
theorem rat_eq_iff {x y : Rat} : x = y ↔ x.num * y.den = y.num * x.den := by
  constructor
  · intro h; subst h; rfl
  · intro h
    rw [← Rat.mkRat_self x, ← Rat.mkRat_self y]
    exact (Rat.mkRat_eq_iff x.den_nz y.den_nz).2 h
theorem cmpQ_eq (x y : Rat) : cmpQ x y = if x.num * y.den < y.num * x.den then -1 else if x.num * y.den = y.num * x.den then 0 else 1 := by
  unfold cmpQ
  by_cases h : x < y
  · rw [if_pos h, if_pos ((Rat.lt_iff x y).1 h)]
  · rw [if_neg h, if_neg (mt (Rat.lt_iff x y).2 h)]
    by_cases e : x = y
    · rw [if_pos e, if_pos (rat_eq_iff.1 e)]
    · rw [if_neg e, if_neg (mt rat_eq_iff.2 e)]
theorem sg_mul (z : Int) {d : Nat} (hd : 0 < d) : (z < 0 → z * (d : Int) < 0) ∧ (z = 0 → z * (d : Int) = 0) ∧ (0 < z → 0 < z * (d : Int)) :=
  ⟨fun h => Int.mul_neg_of_neg_of_pos h (by omega), fun h => by rw [h, Int.zero_mul], fun h => Int.mul_pos h (by omega)⟩
theorem sgn_cases (x : Rat) : (x.num < 0 ∧ sgnQ x = -1) ∨ (x.num = 0 ∧ sgnQ x = 0) ∨ (0 < x.num ∧ sgnQ x = 1) := by
  unfold sgnQ
  by_cases h : x.num.natAbs = 0
  · rw [if_pos h]; omega
  · rw [if_neg h]
    by_cases h2 : x.num < 0
    · rw [if_pos h2]; omega
    · rw [if_neg h2]; omega
theorem cmp_sgn {x y : Rat} (h : sgnQ x ≠ sgnQ y) : (sgnQ x < sgnQ y → cmpQ x y = -1) ∧ (¬ sgnQ x < sgnQ y → cmpQ x y = 1) := by
  have h1 := sg_mul x.num y.den_pos
  have h2 := sg_mul y.num x.den_pos
  have c1 := sgn_cases x
  have c2 := sgn_cases y
  rw [cmpQ_eq]
  generalize x.num * (y.den : Int) = A at *
  generalize y.num * (x.den : Int) = B at *
  refine ⟨fun hl => ?_, fun hl => ?_⟩
  · rw [if_pos (by omega)]
  · rw [if_neg (by omega), if_neg (by omega)]
theorem cmp_pos {x y : Rat} (hs : sgnQ x = sgnQ y) (h : ¬ x.num < 0) : cmpQ x y = cmpL x y := by
  have c1 := sgn_cases x
  have c2 := sgn_cases y
  have e1 : x.num * (y.den : Int) = ((x.num.natAbs * y.den : Nat) : Int) := by rw [Int.natCast_mul, Int.natAbs_of_nonneg (by omega)]
  have e2 : y.num * (x.den : Int) = ((y.num.natAbs * x.den : Nat) : Int) := by rw [Int.natCast_mul, Int.natAbs_of_nonneg (by omega)]
  rw [cmpQ_eq, e1, e2]
  unfold cmpL cmpN
  generalize x.num.natAbs * y.den = A
  generalize y.num.natAbs * x.den = B
  by_cases g : A < B
  · rw [if_pos (by omega), if_pos g]
  · rw [if_neg (by omega), if_neg g]
    by_cases g2 : A = B
    · rw [if_pos (by omega), if_pos g2]
    · rw [if_neg (by omega), if_neg g2]
theorem cmp_neg {x y : Rat} (hs : sgnQ x = sgnQ y) (h : x.num < 0) : cmpQ x y = -cmpL x y := by
  have c1 := sgn_cases x
  have c2 := sgn_cases y
  have e1 : x.num * (y.den : Int) = -((x.num.natAbs * y.den : Nat) : Int) := by
    rw [Int.natCast_mul, ← Int.neg_mul]; congr 1; omega
  have e2 : y.num * (x.den : Int) = -((y.num.natAbs * x.den : Nat) : Int) := by
    rw [Int.natCast_mul, ← Int.neg_mul]; congr 1; omega
  rw [cmpQ_eq, e1, e2]
  unfold cmpL cmpN
  generalize x.num.natAbs * y.den = A
  generalize y.num.natAbs * x.den = B
  by_cases g : A < B
  · rw [if_neg (by omega), if_neg (by omega), if_pos g]; rfl
  · rw [if_neg g]
    by_cases g2 : A = B
    · rw [if_neg (by omega), if_pos (by omega), if_pos g2]; rfl
    · rw [if_pos (by omega), if_neg g2]
theorem cmpN_mul {a b c : Nat} (h : 0 < c) : cmpN (a * c) (b * c) = cmpN a b := by
  unfold cmpN
  simp only [Nat.mul_lt_mul_right h, Nat.mul_left_inj (Nat.ne_of_gt h)]
theorem cmpL_den {x y : Rat} (h : x.den = y.den) : cmpN x.num.natAbs y.num.natAbs = cmpL x y := by
  unfold cmpL; rw [← h, cmpN_mul x.den_pos]
theorem cmpL_w {x y : Rat} (hx : pn x = x.num.natAbs ∧ pd x = x.den ∧ 0 < pd x) (hy : pn y = y.num.natAbs ∧ pd y = y.den ∧ 0 < pd y) : cmpL x y = cmpN (pn x * pd y) (pn y * pd x) := by
  unfold cmpL; rw [hx.1, hx.2.1, hy.1, hy.2.1]
theorem limbs_inj {a b : Nat} (h : limbs a = limbs b) : a = b := by
  have := congrArg valL h
  rwa [valL_limbs, valL_limbs] at this
theorem same_iff (x y : Rat) : x = y ↔ decide (x.num < 0) = decide (y.num < 0) ∧ limbs x.num.natAbs = limbs y.num.natAbs ∧ denL x.den = denL y.den := by
  constructor
  · intro h; subst h; exact ⟨rfl, rfl, rfl⟩
  · rintro ⟨h1, h2, h3⟩
    rw [← sgQ_self x, ← sgQ_self y, h1, limbs_inj h2, denL_inj x.den_nz y.den_nz h3]
theorem same1 {x y : Rat} (h : ¬ decide (x.num < 0) = decide (y.num < 0)) : false = decide (x = y) := (decide_eq_false (fun e => h ((same_iff x y).1 e).1)).symm
theorem same2 {x y : Rat} (h : ¬ decide (limbs x.num.natAbs = limbs y.num.natAbs) = true) : false = decide (x = y) := (decide_eq_false (fun e => h (decide_eq_true ((same_iff x y).1 e).2.1))).symm
theorem same3 {x y : Rat} (h1 : decide (x.num < 0) = decide (y.num < 0)) (h2 : decide (limbs x.num.natAbs = limbs y.num.natAbs) = true) : decide (denL x.den = denL y.den) = decide (x = y) := by
  rw [decide_eq_decide, same_iff]
  exact ⟨fun h => ⟨h1, of_decide_eq_true h2, h⟩, fun h => h.2.2⟩
def minQ (x y : Rat) : Rat := if cmpQ y x < 0 then y else x
def maxQ (x y : Rat) : Rat := if 0 < cmpQ y x then y else x
theorem minQ_bnd {x y : Rat} {b c : Bd} (hx : Bnd .rat b x) (hy : Bnd .rat c y) : Bnd .rat (.n (max b.nb c.nb)) (minQ x y) := by
  unfold minQ; split
  · exact ⟨lt2_mono (Nat.le_max_right _ _) hy.rat.1, le2_mono (Nat.le_max_right _ _) hy.rat.2⟩
  · exact ⟨lt2_mono (Nat.le_max_left _ _) hx.rat.1, le2_mono (Nat.le_max_left _ _) hx.rat.2⟩
theorem maxQ_bnd {x y : Rat} {b c : Bd} (hx : Bnd .rat b x) (hy : Bnd .rat c y) : Bnd .rat (.n (max b.nb c.nb)) (maxQ x y) := by
  unfold maxQ; split
  · exact ⟨lt2_mono (Nat.le_max_right _ _) hy.rat.1, le2_mono (Nat.le_max_right _ _) hy.rat.2⟩
  · exact ⟨lt2_mono (Nat.le_max_left _ _) hx.rat.1, le2_mono (Nat.le_max_left _ _) hx.rat.2⟩
end Go.Proofs.YtcjgaaibflcdiaaGreat.Sx

namespace Go.Proofs.YtcjgaaibflcdiaaGreat.Sx
open Go
set_option linter.unusedVariables false
theorem SubI.lt {x y i c s : Nat} {out : List Nat} (h : SubI x y i c out) (hi : i < (limbs x).length) (hs : s = c + (limbs y).getD i 0) (hl : (limbs x).getD i 0 < s) :
    SubI x y (i + 1) 1 (out.set i (((limbs x).getD i 0 + 4294967296 - s) % 4294967296)) := by
  have h1 := limbs_getD_lt x i
  have h2 := limbs_getD_lt y i
  have hc := h.hc
  have := h.step hi hs
  have e : dif ((limbs x).getD i 0) s = (limbs x).getD i 0 + 18446744073709551616 - s := by rw [dif_eq]; omega
  rw [e, show ((limbs x).getD i 0 + 18446744073709551616 - s) / 9223372036854775808 = 1 by omega, show ((limbs x).getD i 0 + 18446744073709551616 - s) % 4294967296 = ((limbs x).getD i 0 + 4294967296 - s) % 4294967296 by omega] at this
  exact this
theorem SubI.ge {x y i c s : Nat} {out : List Nat} (h : SubI x y i c out) (hi : i < (limbs x).length) (hs : s = c + (limbs y).getD i 0) (hl : ¬ (limbs x).getD i 0 < s) :
    SubI x y (i + 1) 0 (out.set i ((limbs x).getD i 0 - s)) := by
  have h1 := limbs_getD_lt x i
  have := h.step hi hs
  have e : dif ((limbs x).getD i 0) s = (limbs x).getD i 0 - s := by rw [dif_eq]; omega
  rw [e, show ((limbs x).getD i 0 - s) / 9223372036854775808 = 0 by omega, show ((limbs x).getD i 0 - s) % 4294967296 = (limbs x).getD i 0 - s by omega] at this
  exact this
def xw (x : Nat) : Nat := if (limbs x).length ≤ 2 then x else 0
def xk (x : Nat) : Bool := decide ((limbs x).length ≤ 2)
theorem xw_le (x : Nat) : xw x ≤ 18446744073709551615 := by
  unfold xw; split
  · exact Nat.le_of_lt_succ (nl_le2 (by assumption))
  · omega
theorem xw_y {x : Nat} (h : (limbs x).length ≤ 2) : xw x = x ∧ xk x = true := ⟨if_pos h, decide_eq_true h⟩
theorem xw_n {x : Nat} (h : ¬ (limbs x).length ≤ 2) : xw x = 0 ∧ xk x = false := ⟨if_neg h, decide_eq_false h⟩
theorem two_limbs {x : Nat} (h : (limbs x).length = 2) : (limbs x).getD 0 0 + (limbs x).getD 1 0 * 2 ^ 32 = x := by
  have h1 := limbs_last (x := x) (by omega)
  rw [h] at h1
  have h2 := valL_take_succ' (limbs x) 0
  simp only [Nat.reduceSub, Nat.zero_add, List.take_zero, valL, Nat.pow_zero, Nat.pow_one, Nat.one_mul] at h1 h2
  omega
theorem bl_half {v : Nat} (h : v ≠ 0) : bl v = bl (v / 2 ^ 1) + 1 := by
  by_cases e : v = 1
  · subst e; decide
  · exact bl_shift (k := 1) (show 2 ^ 1 ≤ v by omega)
end Go.Proofs.YtcjgaaibflcdiaaGreat.Sx

namespace Go.Proofs.YtcjgaaibflcdiaaGreat.Sx
open Go
set_option linter.unusedVariables false
theorem valL_snoc (l : List Nat) (u : Nat) : valL (l ++ [u]) = valL l + 4294967296 ^ l.length * u := by rw [valL_append]; simp [valL]
theorem valL_rep : ∀ (n : Nat), valL (List.replicate n 0) = 0
  | 0 => rfl
  | n + 1 => by rw [List.replicate_succ, valL, valL_rep n]
theorem snoc_lt {l : List Nat} {u : Nat} (h : ∀ v ∈ l, v < 4294967296) (hu : u < 4294967296) : ∀ v ∈ l ++ [u], v < 4294967296 := by
  intro v hv
  rcases List.mem_append.1 hv with hv | hv
  · exact h v hv
  · rw [List.mem_singleton.1 hv]; exact hu
theorem limbs_len_eq {l : List Nat} (hu : ∀ v ∈ l, v < 4294967296) (h : (limbs (valL l)).length = l.length) : l = limbs (valL l) := by
  have h1 := pad_eq hu
  have h2 := pad_eq (limbs_lt (valL l))
  rw [valL_limbs, h] at h2
  exact h1.trans h2.symm
theorem nl_ge {x n : Nat} (h : n < (limbs x).length) : 4294967296 ^ n ≤ x := by
  apply Nat.le_of_not_lt
  intro hl
  have := nl_le (n := x) (k := n) hl
  unfold nl at this; omega
structure AddX (x y i c : Nat) (out : List Nat) : Prop where
  hl : out.length = i
  hu : ∀ u ∈ out, u < 4294967296
  hc : c ≤ 1
  hv : valL out + 4294967296 ^ i * c = valL ((limbs x).take i) + valL ((limbs y).take i)
  hi : i ≤ max (limbs x).length (limbs y).length + 1
  hm : i = max (limbs x).length (limbs y).length + 1 → c = 0 ∧ 4294967296 ^ (max (limbs x).length (limbs y).length) ≤ x + y
theorem AddX.start (x y : Nat) : AddX x y 0 0 [] := ⟨rfl, fun u hu => by simp at hu, by omega, by simp [valL], by omega, fun h => by omega⟩
theorem AddX.le {x y i c : Nat} {out : List Nat} (h : AddX x y i c out) (hc : i < (limbs x).length ∨ i < (limbs y).length ∨ c ≠ 0) : i ≤ max (limbs x).length (limbs y).length := by
  have := h.hi
  rcases Nat.lt_or_ge (max (limbs x).length (limbs y).length) i with e | e
  · have := h.hm (by omega); omega
  · exact e
theorem AddX.step {x y i c s : Nat} {out : List Nat} (h : AddX x y i c out) (hc : i < (limbs x).length ∨ i < (limbs y).length ∨ c ≠ 0) (hs : s = c + (limbs x).getD i 0 + (limbs y).getD i 0) :
    AddX x y (i + 1) (s / 2 ^ 32) (out ++ [s % 4294967296]) := by
  have hx := limbs_getD_lt x i
  have hy := limbs_getD_lt y i
  have hc1 := h.hc
  have hle := h.le hc
  refine ⟨by simp [h.hl], snoc_lt h.hu (Nat.mod_lt _ (by omega)), by omega, ?_, by omega, ?_⟩
  · rw [valL_snoc, h.hl, valL_take_succ', valL_take_succ', Nat.pow_succ]
    have e : 4294967296 ^ i * (s % 4294967296) + 4294967296 ^ i * 4294967296 * (s / 2 ^ 32) = 4294967296 ^ i * s := by
      rw [Nat.mul_assoc, ← Nat.mul_add, show s / 2 ^ 32 = s / 4294967296 from rfl, Nat.mod_add_div]
    have e2 : 4294967296 ^ i * s = 4294967296 ^ i * c + 4294967296 ^ i * (limbs x).getD i 0 + 4294967296 ^ i * (limbs y).getD i 0 := by rw [hs, Nat.mul_add, Nat.mul_add]
    have := h.hv
    omega
  · intro e
    have hx0 : (limbs x).getD i 0 = 0 := getD_out (by omega)
    have hy0 : (limbs y).getD i 0 = 0 := getD_out (by omega)
    have hv := h.hv
    have hc0 : c = 1 := by omega
    rw [take_all (by omega), take_all (by omega), valL_limbs, valL_limbs, hc0, show i = max (limbs x).length (limbs y).length by omega] at hv
    refine ⟨by omega, by omega⟩
theorem AddX.step2 {x y i c s u : Nat} {out : List Nat} (h : AddX x y i c out) (hc : i < (limbs x).length ∨ i < (limbs y).length ∨ c ≠ 0) (hs : s = c + (limbs x).getD i 0 + (limbs y).getD i 0) (hu : u = s % 4294967296) :
    AddX x y (i + 1) (s / 2 ^ 32) (out ++ [u]) := by subst hu; exact h.step hc hs
theorem AddX.fin {x y i c : Nat} {out : List Nat} (h : AddX x y i c out) (h1 : ¬ i < (limbs x).length) (h2 : ¬ i < (limbs y).length) (h0 : c = 0) : out = limbs (x + y) := by
  have hv := h.hv
  rw [take_all (by omega), take_all (by omega), valL_limbs, valL_limbs, h0, Nat.mul_zero, Nat.add_zero] at hv
  rw [← hv]
  refine limbs_len_eq h.hu ?_
  have l1 := nl_valL h.hu
  have l2 : (limbs x).length ≤ (limbs (valL out)).length := nl_mono' (by omega)
  have l3 : (limbs y).length ≤ (limbs (valL out)).length := nl_mono' (by omega)
  have hl := h.hl
  have hi := h.hi
  rcases Nat.lt_or_ge (max (limbs x).length (limbs y).length) i with e | e
  · have h9 := (h.hm (by omega)).2
    have : max (limbs x).length (limbs y).length < (limbs (valL out)).length := by
      apply Nat.lt_of_not_le
      intro hl
      have h3 := valL_lt (limbs (valL out)) (limbs_lt _)
      rw [valL_limbs] at h3
      have h4 := Nat.pow_le_pow_right (show 0 < 4294967296 by omega) hl
      omega
    omega
  · omega
theorem normL_app {a b : List Nat} (hb : b ≠ []) (h : normL b = true) : normL (a ++ b) = true := by
  induction a with
  | nil => exact h
  | cons v r ih => rw [List.cons_append, normL_cons (by simp [hb])]; exact ih
theorem shift_limbs {x k : Nat} (hx : x ≠ 0) : List.replicate k 0 ++ limbs x = limbs (x * 4294967296 ^ k) := by
  have hne : limbs x ≠ [] := by rw [limbs_pos hx]; simp
  have hu : ∀ u ∈ List.replicate k 0 ++ limbs x, u < 4294967296 := by
    intro u hu
    rcases List.mem_append.1 hu with hu | hu
    · exact rep_lt k u hu
    · exact limbs_lt x u hu
  have := limbs_valL hu (normL_app hne (limbs_norm x))
  rw [valL_append, valL_rep, valL_limbs, List.length_replicate, Nat.zero_add, Nat.mul_comm] at this
  exact this.symm
theorem pow_split (s : Nat) : 4294967296 ^ (s / 32) * 2 ^ (s % 32) = 2 ^ s := by
  rw [show (4294967296 : Nat) = 2 ^ 32 from rfl, ← Nat.pow_mul, ← Nat.pow_add, Nat.div_add_mod]
structure UpX (x s i c : Nat) (out : List Nat) : Prop where
  hl : out.length = s / 32 + i
  hu : ∀ u ∈ out, u < 4294967296
  hc : c < 2 ^ (s % 32)
  hi : i ≤ (limbs x).length
  hv : valL out + 4294967296 ^ (s / 32 + i) * c = 4294967296 ^ (s / 32) * (valL ((limbs x).take i) * 2 ^ (s % 32))
theorem UpX.start (x s : Nat) : UpX x s 0 0 (List.replicate (s / 32) 0) := ⟨by simp, rep_lt _, Nat.pow_pos (by omega), by omega, by simp [valL, valL_rep]⟩
theorem UpX.step {x s i c d : Nat} {out : List Nat} (h : UpX x s i c out) (hi : i < (limbs x).length) (hd : d = c + (limbs x).getD i 0 * 2 ^ (s % 32)) : UpX x s (i + 1) (d / 2 ^ 32) (out ++ [d % 4294967296]) := by
  have hx := limbs_getD_lt x i
  have hc := h.hc
  refine ⟨by simp [h.hl]; omega, snoc_lt h.hu (Nat.mod_lt _ (by omega)), ?_, by omega, ?_⟩
  · rw [Nat.div_lt_iff_lt_mul (by omega)]
    have h1 : (limbs x).getD i 0 * 2 ^ (s % 32) ≤ 4294967295 * 2 ^ (s % 32) := Nat.mul_le_mul_right _ (by omega)
    omega
  · rw [valL_snoc, h.hl, valL_take_succ', ← Nat.add_assoc, Nat.pow_succ]
    have e : 4294967296 ^ (s / 32 + i) * (d % 4294967296) + 4294967296 ^ (s / 32 + i) * 4294967296 * (d / 2 ^ 32) = 4294967296 ^ (s / 32 + i) * d := by
      rw [Nat.mul_assoc, ← Nat.mul_add, show d / 2 ^ 32 = d / 4294967296 from rfl, Nat.mod_add_div]
    have e2 : 4294967296 ^ (s / 32 + i) * d = 4294967296 ^ (s / 32 + i) * c + 4294967296 ^ (s / 32) * (4294967296 ^ i * (limbs x).getD i 0 * 2 ^ (s % 32)) := by
      rw [hd, Nat.mul_add, Nat.pow_add]; simp only [Nat.mul_assoc]
    have := h.hv
    rw [Nat.add_mul, Nat.mul_add]
    omega
theorem UpX.fin {x s i c : Nat} {out : List Nat} (h : UpX x s i c out) (hi : ¬ i < (limbs x).length) : valL (out ++ [c]) = x * 2 ^ s ∧ ∀ u ∈ out ++ [c], u < 4294967296 := by
  have hc := h.hc
  have h1 := Nat.pow_le_pow_right (show 0 < 2 by omega) (show s % 32 ≤ 32 by omega)
  refine ⟨?_, snoc_lt h.hu (by omega)⟩
  have hv := h.hv
  rw [take_all (by omega), valL_limbs] at hv
  rw [valL_snoc, h.hl, hv, ← pow_split s, Nat.mul_left_comm]
theorem up_or {x s i c : Nat} {out : List Nat} (h : UpX x s i c out) : c + (limbs x).getD i 0 * 2 ^ (s % 32) < 18446744073709551616 := or_bound2 (limbs_getD_lt x i) (by omega) h.hc
theorem drop_limbs : ∀ (k x : Nat), (limbs x).drop k = limbs (x / 4294967296 ^ k)
  | 0, x => by simp
  | k + 1, x => by
    by_cases e : x = 0
    · subst e; simp [limbs_zero]
    · rw [limbs_pos e, List.drop_succ_cons, drop_limbs k, Nat.pow_succ, Nat.mul_comm, Nat.div_div_eq_div_mul]
structure DownX (w r i : Nat) (out : List Nat) : Prop where
  hl : out.length = (limbs w).length
  hi : i ≤ (limbs w).length
  hu : ∀ u ∈ out, u < 4294967296
  hv : valL (out.take i) = w / 2 ^ r % 4294967296 ^ i
theorem DownX.start (w r : Nat) : DownX w r 0 (List.replicate (limbs w).length 0) := ⟨by simp, by omega, rep_lt _, by simp [valL, Nat.mod_one]⟩
theorem down_dig {m r : Nat} (hr : r ≤ 32) : m / 2 ^ r % 4294967296 = (m % 18446744073709551616) / 2 ^ r % 4294967296 := by
  have h1 : (2 : Nat) ^ r * 2 ^ (64 - r) = 18446744073709551616 := by rw [← Nat.pow_add, show r + (64 - r) = 64 by omega]
  have h2 : (2 : Nat) ^ (64 - r) = 4294967296 * 2 ^ (32 - r) := by rw [show (4294967296 : Nat) = 2 ^ 32 from rfl, ← Nat.pow_add]; congr 1; omega
  have h3 := Nat.div_add_mod m 18446744073709551616
  generalize m % 18446744073709551616 = v at *
  rw [← h3, ← h1, Nat.mul_assoc, Nat.mul_add_div (Nat.pow_pos (by omega)), h2, Nat.mul_assoc, Nat.mul_add_mod]
theorem DownX.step {w r i v : Nat} {out : List Nat} (h : DownX w r i out) (hr : r ≤ 32) (hi : i < (limbs w).length) (hv : v = (limbs w).getD i 0 + (limbs w).getD (i + 1) 0 * 4294967296) :
    DownX w r (i + 1) (out.set i (v / 2 ^ r % 4294967296)) := by
  have hl := h.hl
  refine ⟨by simp [hl], by omega, all_set h.hu (Nat.mod_lt _ (by omega)), ?_⟩
  rw [valL_set (by omega), h.hv, Nat.mod_pow_succ]
  congr 2
  have e1 := getD_val (limbs_lt w) i
  have e2 := getD_val (limbs_lt w) (i + 1)
  rw [valL_limbs] at e1 e2
  rw [Nat.pow_succ, ← Nat.div_div_eq_div_mul] at e2
  rw [e1, e2] at hv
  rw [Nat.div_div_eq_div_mul, Nat.mul_comm, ← Nat.div_div_eq_div_mul, @down_dig (w / 4294967296 ^ i) r hr]
  congr 2
  generalize w / 4294967296 ^ i = m at *
  omega
theorem DownX.fin {w r i : Nat} {out : List Nat} (h : DownX w r i out) (hi : ¬ i < (limbs w).length) : valL out = w / 2 ^ r := by
  have hv := h.hv
  have h1 := h.hi
  have e : i = (limbs w).length := by omega
  have hl := h.hl
  rw [take_all (by omega)] at hv
  rw [hv, Nat.mod_eq_of_lt]
  have := valL_lt (limbs w) (limbs_lt w)
  rw [valL_limbs, ← e] at this
  exact Nat.lt_of_le_of_lt (Nat.div_le_self _ _) this
theorem down_end (x s : Nat) : x / 4294967296 ^ (s / 32) / 2 ^ (s % 32) = x / 2 ^ s := by rw [Nat.div_div_eq_div_mul, pow_split]
theorem down_none {x s : Nat} (h : (limbs x).length ≤ s / 32) : 0 = x / 2 ^ s := by
  rw [← down_end, Nat.div_eq_of_lt (a := x), Nat.zero_div]
  have h1 := valL_lt (limbs x) (limbs_lt x)
  rw [valL_limbs] at h1
  exact Nat.lt_of_lt_of_le h1 (Nat.pow_le_pow_right (by omega) h)
theorem valL_set0 : ∀ {ls : List Nat} {k d : Nat}, k < ls.length → ls.getD k 0 = 0 → valL (ls.set k d) = valL ls + 4294967296 ^ k * d
  | u :: r, 0, d, _, h => by simp at h; subst h; simp [valL]; omega
  | u :: r, k + 1, d, hk, h => by
    simp only [List.getD_cons_succ] at h
    simp only [List.length_cons] at hk
    rw [List.set_cons_succ, valL, valL, valL_set0 (by omega) h, Nat.pow_succ, Nat.mul_add, ← Nat.mul_assoc, Nat.mul_comm 4294967296 (4294967296 ^ k)]; omega
structure DX (A V L : Nat) (z : Int) (q : List Nat) (r : Nat) : Prop where
  hz : -1 ≤ z
  hz1 : z < L
  hl : q.length = L
  hu : ∀ u ∈ q, u < 4294967296
  hv : A = valL q * V + r
  hr : r < V * 4294967296 ^ (z + 1).toNat
  h0 : ∀ j : Nat, (j : Int) ≤ z → q.getD j 0 = 0
theorem DX.start {A V L n : Nat} (hn0 : 0 < n) (hn : n = (limbs V).length) (hn : n ≤ (limbs A).length) (hL : L = (limbs A).length - n + 1) : DX A V L (((limbs A).length : Int) - n) (List.replicate L 0) A := by
  refine ⟨by omega, by omega, by simp, rep_lt _, by rw [valL_rep]; omega, ?_, fun j _ => ?_⟩
  · have h1 := valL_lt (limbs A) (limbs_lt A)
    rw [valL_limbs] at h1
    have h2 := nl_ge (x := V) (n := n - 1) (by omega)
    have h3 : (4294967296 : Nat) ^ (limbs A).length = 4294967296 ^ (n - 1) * 4294967296 ^ ((limbs A).length - n + 1) := by rw [← Nat.pow_add]; congr 1; omega
    rw [show ((((limbs A).length : Int) - n + 1).toNat) = (limbs A).length - n + 1 by omega]
    rw [h3] at h1
    exact Nat.lt_of_lt_of_le h1 (Nat.mul_le_mul_right _ h2)
  · simp [List.getD_eq_getElem?_getD, List.getElem?_replicate]; split <;> rfl
structure EX (V k r d p : Nat) : Prop where
  hp : p = V * d * 4294967296 ^ k
  hd : r / (V * 4294967296 ^ k) ≤ d
  h1 : d ≤ 4294967295
theorem DX.est {A V L n k T : Nat} {z : Int} {q : List Nat} {r : Nat} (h : DX A V L z q r) (hz : 0 ≤ z) (hk : k = z.toNat) (hV : 0 < V) (hn0 : 0 < n) (hn : n = (limbs V).length)
    (hT : T = (limbs r).getD (k + n) 0 * 4294967296 + (limbs r).getD (k + n - 1) 0) :
    EX V k r (min (T / (limbs V).getD (n - 1) 0) 4294967295) (V * min (T / (limbs V).getD (n - 1) 0) 4294967295 * 4294967296 ^ k) := by
  have hP := Nat.mul_pos hV (Nat.pow_pos (n := k) (show 0 < 4294967296 by omega))
  have hr := h.hr
  rw [show (z + 1).toNat = k + 1 by omega, Nat.pow_succ, ← Nat.mul_assoc] at hr
  have hq : r / (V * 4294967296 ^ k) < 4294967296 := by rw [Nat.div_lt_iff_lt_mul hP, Nat.mul_comm]; exact hr
  refine ⟨rfl, Nat.le_min.2 ⟨?_, by omega⟩, Nat.min_le_right _ _⟩
  have hv := limb_div V (n - 1) (by omega)
  have hvp : 0 < (limbs V).getD (n - 1) 0 := by
    have := limbs_last_ne (x := V) (by omega)
    rw [← hn] at this; omega
  rw [Nat.le_div_iff_mul_le hvp]
  have e1 := getD_val (limbs_lt r) (k + n)
  have e2 := getD_val (limbs_lt r) (k + n - 1)
  rw [valL_limbs] at e1 e2
  have hVl := valL_lt (limbs V) (limbs_lt V)
  rw [valL_limbs, ← hn] at hVl
  -- the top of r
  have hT2 : T = r / 4294967296 ^ (k + n - 1) := by
    have hrl : r / 4294967296 ^ (k + n - 1) < 18446744073709551616 := by
      rw [Nat.div_lt_iff_lt_mul (Nat.pow_pos (by omega))]
      have e3 : 18446744073709551616 * 4294967296 ^ (k + n - 1) = 4294967296 ^ n * 4294967296 ^ k * 4294967296 := by
        rw [← Nat.pow_add, show (18446744073709551616 : Nat) = 4294967296 ^ 2 from rfl, ← Nat.pow_add, ← Nat.pow_succ]; congr 1; omega
      rw [e3]
      refine Nat.lt_of_lt_of_le hr (Nat.mul_le_mul_right _ (Nat.mul_le_mul_right _ (Nat.le_of_lt hVl)))
    have e4 : r / 4294967296 ^ (k + n) = r / 4294967296 ^ (k + n - 1) / 4294967296 := by
      rw [Nat.div_div_eq_div_mul, ← Nat.pow_succ]; congr 2; omega
    rw [e4] at e1
    rw [hT, e1, e2]
    generalize r / 4294967296 ^ (k + n - 1) = m at *
    omega
  rw [hT2, Nat.le_div_iff_mul_le (Nat.pow_pos (by omega)), hv]
  have h5 : V / 4294967296 ^ (n - 1) * 4294967296 ^ (n - 1) ≤ V := Nat.div_mul_le_self _ _
  have h6 : r / (V * 4294967296 ^ k) * (V * 4294967296 ^ k) ≤ r := Nat.div_mul_le_self _ _
  have e5 : (4294967296 : Nat) ^ (k + n - 1) = 4294967296 ^ (n - 1) * 4294967296 ^ k := by rw [← Nat.pow_add]; congr 1; omega
  rw [e5, Nat.mul_assoc, ← Nat.mul_assoc (V / _)]
  exact Nat.le_trans (Nat.mul_le_mul_left _ (Nat.mul_le_mul_right _ h5)) h6
theorem EX.gt {V k r d p : Nat} (h : EX V k r d p) (hV : 0 < V) (hc : r < p) : 1 ≤ d ∧ V * 4294967296 ^ k ≤ p ∧ EX V k r (d - 1) (p - V * 4294967296 ^ k) := by
  have hP := Nat.mul_pos hV (Nat.pow_pos (n := k) (show 0 < 4294967296 by omega))
  have h1 := h.h1
  have hp : p = d * (V * 4294967296 ^ k) := by rw [h.hp, Nat.mul_comm V d, Nat.mul_assoc]
  have hlt : r / (V * 4294967296 ^ k) < d := by rw [Nat.div_lt_iff_lt_mul hP, ← hp]; exact hc
  have hd1 : 1 ≤ d := Nat.lt_of_le_of_lt (Nat.zero_le _) hlt
  refine ⟨hd1, ?_, ?_, Nat.le_sub_one_of_lt hlt, by omega⟩
  · rw [hp]; exact Nat.le_mul_of_pos_left _ (by omega)
  · rw [Nat.mul_comm V (d - 1), Nat.mul_assoc, Nat.sub_mul, ← hp, Nat.one_mul]
theorem DX.next {A V L k d p : Nat} {z : Int} {q : List Nat} {r : Nat} (h : DX A V L z q r) (hz : 0 ≤ z) (hk : k = z.toNat) (hV : 0 < V) (e : EX V k r d p) (hc : p ≤ r) : DX A V L (z - 1) (q.set k d) (r - p) := by
  have hP := Nat.mul_pos hV (Nat.pow_pos (n := k) (show 0 < 4294967296 by omega))
  have hz1 := h.hz1
  have hl := h.hl
  have h1 := e.h1
  have hp : p = d * (V * 4294967296 ^ k) := by rw [e.hp, Nat.mul_comm V d, Nat.mul_assoc]
  have hd : r < (d + 1) * (V * 4294967296 ^ k) := by rw [← Nat.div_lt_iff_lt_mul hP]; exact Nat.lt_succ_of_le e.hd
  refine ⟨by omega, by omega, by simp [hl], all_set h.hu (by omega), ?_, ?_, fun j hj => ?_⟩
  · rw [valL_set0 (by omega) (h.h0 k (by omega)), Nat.add_mul, h.hv]
    rw [Nat.mul_comm (4294967296 ^ k) d, Nat.mul_assoc, Nat.mul_comm (4294967296 ^ k) V, ← hp]; omega
  · rw [show (z - 1 + 1).toNat = k by omega]
    rw [Nat.add_mul, ← hp] at hd; omega
  · rw [getD_set_ne (by omega)]; exact h.h0 j (by omega)
theorem DX.fin {x y s L : Nat} {z : Int} {q : List Nat} {r : Nat} (h : DX (x * 2 ^ s) (y * 2 ^ s) L z q r) (hy : 0 < y) (hz : z < 0) : valL q = x / y ∧ r / 2 ^ s = x % y := by
  have hp := Nat.pow_pos (n := s) (show 0 < 2 by omega)
  have h1 := h.hz
  have hr := h.hr
  have hv := h.hv
  rw [show (z + 1).toNat = 0 by omega, Nat.pow_zero, Nat.mul_one] at hr
  have e1 : (x * 2 ^ s) / (y * 2 ^ s) = valL q := by
    rw [hv, Nat.mul_comm (valL q), Nat.mul_add_div (Nat.mul_pos hy hp), Nat.div_eq_of_lt hr]; rfl
  have e2 : (x * 2 ^ s) % (y * 2 ^ s) = r := by rw [hv, Nat.mul_comm (valL q), Nat.mul_add_mod, Nat.mod_eq_of_lt hr]
  rw [Nat.mul_div_mul_right _ _ hp] at e1
  rw [Nat.mul_mod_mul_right] at e2
  exact ⟨e1.symm, by rw [← e2, Nat.mul_div_cancel _ hp]⟩
theorem lt2_shift {x k a c : Nat} (h : lt2 x a) (hk : k ≤ c) : lt2 (x * 4294967296 ^ k) (a + 32 * c) := by
  unfold lt2 at *
  rw [show (4294967296 : Nat) = 2 ^ 32 from rfl, ← Nat.pow_mul, Nat.pow_add]
  exact Nat.lt_of_lt_of_le (Nat.mul_lt_mul_of_pos_right h (Nat.pow_pos (by omega))) (Nat.mul_le_mul_left _ (Nat.pow_le_pow_right (by omega) (by omega)))
theorem lt2_up {x s a c : Nat} (h : lt2 x a) (hs : s ≤ c) : lt2 (x * 2 ^ s) (a + c) := by
  unfold lt2 at *
  rw [Nat.pow_add]
  exact Nat.lt_of_lt_of_le (Nat.mul_lt_mul_of_pos_right h (Nat.pow_pos (by omega))) (Nat.mul_le_mul_left _ (Nat.pow_le_pow_right (by omega) hs))
theorem lt2_top {y : Nat} : lt2 (y / 4294967296 ^ ((limbs y).length - 1)) 32 := by
  unfold lt2
  rw [Nat.div_lt_iff_lt_mul (Nat.pow_pos (by omega)), show (2 : Nat) ^ 32 = 4294967296 from rfl, Nat.mul_comm, ← Nat.pow_succ]
  have h1 := valL_lt (limbs y) (limbs_lt y)
  rw [valL_limbs] at h1
  exact Nat.lt_of_lt_of_le h1 (Nat.pow_le_pow_right (by omega) (by omega))
theorem bi_or0 {b : Nat} (h : b < 4294967296) : BinIs .or .u64 0 (b : Int) ((0 + b : Nat) : Int) := bi_or (a := 0) (b := b) 0 32 rfl h (by omega)
end Go.Proofs.YtcjgaaibflcdiaaGreat.Sx

namespace Go.Proofs.YtcjgaaibflcdiaaGreat.Sx
open Go
set_option linter.unusedVariables false
def dm (d : Nat) : Nat := if d = 1 then 0 else d
theorem denL_dm (d : Nat) : denL d = limbs (dm d) := by unfold denL dm; split <;> rfl
theorem dm_lt2 {d b : Nat} (h : le2 d b) : lt2 (dm d) (b + 1) := by
  unfold dm; split
  · exact Nat.pow_pos (by omega)
  · exact le2_lt2 h
theorem dm_cmp {d e : Nat} (hd : d ≠ 0) (he : e ≠ 0) : cmpN (dm d) (dm e) = 0 ↔ d = e := by
  rw [cmp_eq0]; unfold dm; split <;> split <;> omega
theorem ysame {x y : Rat} (h : ¬ decide (x.num < 0) = decide (y.num < 0) ∨ ¬ cmpN x.num.natAbs y.num.natAbs = 0 ∨ ¬ cmpN (dm x.den) (dm y.den) = 0) : false = decide (x = y) := by
  symm; apply decide_eq_false
  intro e; subst e
  rcases h with h | h | h
  · exact h rfl
  · exact h (cmp_eq0.2 rfl)
  · exact h (cmp_eq0.2 rfl)
theorem ysame' {x y : Rat} (h1 : decide (x.num < 0) = decide (y.num < 0)) (h2 : cmpN x.num.natAbs y.num.natAbs = 0) : decide (cmpN (dm x.den) (dm y.den) = 0) = decide (x = y) := by
  have e : cmpN (dm x.den) (dm y.den) = 0 ↔ x = y := by
    rw [dm_cmp x.den_nz y.den_nz, same_iff x y]
    constructor
    · intro h; exact ⟨h1, by rw [cmp_eq0.1 h2], by rw [h]⟩
    · rintro ⟨_, _, h⟩; exact denL_inj x.den_nz y.den_nz h
  rw [decide_eq_decide]; exact e
theorem neg_abs (x : Rat) : (-x).num.natAbs = x.num.natAbs := by rw [Rat.neg_num, Int.natAbs_neg]
theorem neg_bnd {x : Rat} {b : Bd} (h : Bnd .rat b x) : Bnd .rat (.n b.nb) (-x) := by
  have h1 := h.rat
  exact ⟨by rw [neg_abs]; exact h1.1, by rw [Rat.neg_den]; exact h1.2⟩
theorem neg_s1 {x : Rat} (h : ¬ x.num < 0) : decide (0 < (limbs x.num.natAbs).length) = decide ((-x).num < 0) := by
  rw [decide_eq_decide, Rat.neg_num]
  have := @nl0 x.num.natAbs
  omega
theorem neg_s2 {x : Rat} (h : x.num < 0) : false = decide ((-x).num < 0) := by
  symm; apply decide_eq_false; rw [Rat.neg_num]; omega
theorem int_num (v : Int) : ((v : Rat)).num = v := Rat.num_intCast v
theorem int_den (v : Int) : ((v : Rat)).den = 1 := Rat.den_intCast v
def mkC' (d : Int) : Int := if d = 0 then 3 else 0
theorem mkC_b (d : Int) : (mkC' d).natAbs ≤ 3 := by unfold mkC'; split <;> decide
theorem make_eq (n d : Int) : sgQ (decide (decide (n < 0) ≠ decide (d < 0))) n.natAbs d.natAbs = (n : Rat) / (d : Rat) := by
  by_cases h : d = 0
  · subst h; simp [sgQ_d0, Rat.div_def]
  · have := quo_sg (x := (n : Rat)) (y := (d : Rat)) (by rw [int_num]; omega)
    rw [int_num, int_num, int_den, int_den, Nat.mul_one, Nat.one_mul] at this
    exact this
theorem make_bnd {n d : Int} {b c : Nat} (hn : n.natAbs ≤ b) (hd : d.natAbs ≤ c) : Bnd .rat (.n (max (Nat.log2 b + 1) (Nat.log2 c + 1))) ((n : Rat) / (d : Rat)) := by
  rw [← make_eq]
  exact sgQ_bnd0 (lt2_mono (Nat.le_max_left _ _) (lt2_log hn)) (lt2_mono (Nat.le_max_right _ _) (lt2_log hd))
end Go.Proofs.YtcjgaaibflcdiaaGreat.Sx

namespace Go.Proofs.YtcjgaaibflcdiaaGreat.Sx
open Go
set_option linter.unusedVariables false
def Bd.mx : Bd → Nat
  | .u => 0
  | .n b => b
  | .s _ e => e.mx
  | .p a b => max a.mx b.mx
abbrev V3 : Type := Rat × Rat × Rat
abbrev tV3 : Ty := .pr .rat (.pr .rat .rat)
abbrev bV3 (m : Nat) : Bd := .p (.n m) (.p (.n m) (.n m))
theorem rat_mx {b : Bd} {x : Rat} {m : Nat} (h : Bnd .rat b x) (hm : b.nb ≤ m) : Bnd .rat (.n m) x := by
  have h := h.rat
  exact ⟨lt2_mono hm h.1, Nat.le_trans h.2 (Nat.pow_le_pow_right (by omega) hm)⟩
theorem Bd.nb_mx (b : Bd) : b.nb ≤ b.mx := by cases b <;> simp [Bd.nb, Bd.mx]
theorem Bd.l_mx (b : Bd) : b.l.mx ≤ b.mx := by cases b <;> simp [Bd.l, Bd.mx] <;> omega
theorem Bd.r_mx (b : Bd) : b.r.mx ≤ b.mx := by cases b <;> simp [Bd.r, Bd.mx] <;> omega
theorem Bnd.ratM {b : Bd} {x : Rat} (h : Bnd .rat b x) : Bnd .rat (.n b.mx) x := rat_mx h b.nb_mx
theorem Bnd.v3 {b : Bd} {x : V3} (h : Bnd tV3 b x) : Bnd .rat (.n b.mx) x.1 ∧ Bnd .rat (.n b.mx) x.2.1 ∧ Bnd .rat (.n b.mx) x.2.2 := by
  have h1 := h.pr
  have h2 := h1.2.pr
  have := b.l_mx; have := b.r_mx; have := b.r.l_mx; have := b.r.r_mx
  exact ⟨rat_mx h1.1 (Nat.le_trans (Bd.nb_mx _) (by omega)), rat_mx h2.1 (Nat.le_trans (Bd.nb_mx _) (by omega)), rat_mx h2.2 (Nat.le_trans (Bd.nb_mx _) (by omega))⟩
theorem v3_ok {m : Nat} {x : V3} (h : Bnd .rat (.n m) x.1 ∧ Bnd .rat (.n m) x.2.1 ∧ Bnd .rat (.n m) x.2.2) : (WV.c (.agg [.dt tV3 (bV3 m) x])).ok := agg_ok h
def addV (p q : V3) : V3 := (p.1 + q.1, p.2.1 + q.2.1, p.2.2 + q.2.2)
def subV (p q : V3) : V3 := (p.1 - q.1, p.2.1 - q.2.1, p.2.2 - q.2.2)
def mulV (p q : V3) : V3 := (p.1 * q.1, p.2.1 * q.2.1, p.2.2 * q.2.2)
def scaleV (r : Rat) (p : V3) : V3 := (r * p.1, r * p.2.1, r * p.2.2)
def dotQ (p q : V3) : Rat := p.1 * q.1 + p.2.1 * q.2.1 + p.2.2 * q.2.2
def crossQ (p q : V3) : V3 := (p.2.1 * q.2.2 - p.2.2 * q.2.1, p.2.2 * q.1 - p.1 * q.2.2, p.1 * q.2.1 - p.2.1 * q.1)
theorem mul_b {x y : Rat} {a b : Nat} (hx : Bnd .rat (.n a) x) (hy : Bnd .rat (.n b) y) : Bnd .rat (.n (a + b)) (x * y) := rat_mul_bnd hx hy
theorem add_b {x y : Rat} {a b : Nat} (hx : Bnd .rat (.n a) x) (hy : Bnd .rat (.n b) y) : Bnd .rat (.n (a + b + 1)) (x + y) := add_bnd' hx hy
theorem sub_b {x y : Rat} {a b : Nat} (hx : Bnd .rat (.n a) x) (hy : Bnd .rat (.n b) y) : Bnd .rat (.n (a + b + 1)) (x - y) := sub_bnd' hx hy
theorem addV_b {b c : Bd} {p q : V3} (hp : Bnd tV3 b p) (hq : Bnd tV3 c q) : Bnd tV3 (bV3 (b.mx + c.mx + 1)) (addV p q) :=
  ⟨add_b hp.v3.1 hq.v3.1, add_b hp.v3.2.1 hq.v3.2.1, add_b hp.v3.2.2 hq.v3.2.2⟩
theorem subV_b {b c : Bd} {p q : V3} (hp : Bnd tV3 b p) (hq : Bnd tV3 c q) : Bnd tV3 (bV3 (b.mx + c.mx + 1)) (subV p q) :=
  ⟨sub_b hp.v3.1 hq.v3.1, sub_b hp.v3.2.1 hq.v3.2.1, sub_b hp.v3.2.2 hq.v3.2.2⟩
theorem mulV_b {b c : Bd} {p q : V3} (hp : Bnd tV3 b p) (hq : Bnd tV3 c q) : Bnd tV3 (bV3 (b.mx + c.mx)) (mulV p q) :=
  ⟨mul_b hp.v3.1 hq.v3.1, mul_b hp.v3.2.1 hq.v3.2.1, mul_b hp.v3.2.2 hq.v3.2.2⟩
theorem scaleV_b {b c : Bd} {r : Rat} {q : V3} (hp : Bnd .rat b r) (hq : Bnd tV3 c q) : Bnd tV3 (bV3 (b.mx + c.mx)) (scaleV r q) :=
  ⟨mul_b hp.ratM hq.v3.1, mul_b hp.ratM hq.v3.2.1, mul_b hp.ratM hq.v3.2.2⟩
theorem rat_le {x : Rat} {a b : Nat} (h : Bnd .rat (.n a) x) (hm : a ≤ b) : Bnd .rat (.n b) x := rat_mx h hm
theorem dotQ_b {b c : Bd} {p q : V3} (hp : Bnd tV3 b p) (hq : Bnd tV3 c q) : Bnd .rat (.n (3 * (b.mx + c.mx) + 2)) (dotQ p q) :=
  rat_le (add_b (add_b (mul_b hp.v3.1 hq.v3.1) (mul_b hp.v3.2.1 hq.v3.2.1)) (mul_b hp.v3.2.2 hq.v3.2.2)) (by omega)
theorem crossQ_b {b c : Bd} {p q : V3} (hp : Bnd tV3 b p) (hq : Bnd tV3 c q) : Bnd tV3 (bV3 (2 * (b.mx + c.mx) + 1)) (crossQ p q) :=
  ⟨rat_le (sub_b (mul_b hp.v3.2.1 hq.v3.2.2) (mul_b hp.v3.2.2 hq.v3.2.1)) (by omega), rat_le (sub_b (mul_b hp.v3.2.2 hq.v3.1) (mul_b hp.v3.1 hq.v3.2.2)) (by omega), rat_le (sub_b (mul_b hp.v3.1 hq.v3.2.1) (mul_b hp.v3.2.1 hq.v3.1)) (by omega)⟩
theorem v3_iff {p q : V3} : p = q ↔ p.1 = q.1 ∧ p.2.1 = q.2.1 ∧ p.2.2 = q.2.2 := by
  obtain ⟨a, b, c⟩ := p; obtain ⟨d, e, f⟩ := q; simp
theorem v3_no {p q : V3} (h : ¬ p.1 = q.1 ∨ ¬ p.2.1 = q.2.1 ∨ ¬ p.2.2 = q.2.2) : false = decide (p = q) := by
  symm; apply decide_eq_false; intro e; subst e; simp at h
theorem v3_yes {p q : V3} (h1 : p.1 = q.1) (h2 : p.2.1 = q.2.1) (h3 : p.2.2 = q.2.2) : true = decide (p = q) := (decide_eq_true (v3_iff.2 ⟨h1, h2, h3⟩)).symm
theorem nd {p : Prop} [Decidable p] (h : (!decide p) = true) : ¬ p := by simpa using h
theorem nd' {p : Prop} [Decidable p] (h : ¬ (!decide p) = true) : p := by simpa using h
theorem yd {p : Prop} [Decidable p] (h : decide p = true) : p := of_decide_eq_true h
theorem yd' {p : Prop} [Decidable p] (h : ¬ decide p = true) : ¬ p := fun e => h (decide_eq_true e)
theorem getD_len {α : Type} {l : List α} {d : α} {i : Nat} (h : i < l.length) : l.getD i d = l[i] := by simp [List.getD_eq_getElem?_getD, h]
theorem take_snoc {α : Type} {l : List α} {d : α} {i : Nat} (h : i < l.length) : l.take (i + 1) = l.take i ++ [l.getD i d] := by
  rw [getD_len h, List.take_succ_eq_append_getElem h]
theorem set_take {α : Type} {l : List α} {v : α} {i : Nat} (h : i < l.length) : (l.set i v).take (i + 1) = l.take i ++ [v] := by
  rw [List.take_succ_eq_append_getElem (by simpa using h), List.getElem_set_self]
  congr 1
  rw [List.take_set, List.set_eq_of_length_le (by simp; omega)]
structure Cpy {α : Type} (l out : List α) (i : Nat) : Prop where
  hl : out.length = l.length
  hi : i ≤ l.length
  ht : out.take i = l.take i
theorem Cpy.start {α : Type} {l : List α} (d : α) : Cpy l (List.replicate l.length d) 0 := ⟨by simp, by omega, by simp⟩
theorem Cpy.step {α : Type} {l out : List α} {i : Nat} (h : Cpy l out i) (d : α) (hi : i < l.length) : Cpy l (out.set i (l.getD i d)) (i + 1) :=
  ⟨by simp [h.hl], by omega, by rw [set_take (by rw [h.hl]; exact hi), take_snoc hi, h.ht]⟩
theorem Cpy.fin {α : Type} {l out : List α} {i : Nat} (h : Cpy l out i) (hi : ¬ i < l.length) : out = l := by
  have h1 := h.hl
  have h2 := h.hi
  have := h.ht
  rwa [List.take_of_length_le (by omega), List.take_of_length_le (by omega)] at this
end Go.Proofs.YtcjgaaibflcdiaaGreat.Sx

namespace Go.Proofs.YtcjgaaibflcdiaaGreat.Sx
open Go
set_option linter.unusedVariables false
abbrev Dice : Type := List Int × Nat
abbrev tDice : Ty := .pr (.sl (.int .i64)) (.nat .i64)
theorem mod_a {a m : Int} (hm : 0 < m) (h : Int.tmod a m < 0) : Int.tmod a m + m = a % m := by
  have h1 := Int.tmod_eq_emod (a := a) (b := m)
  have h2 := Int.emod_nonneg a (show m ≠ 0 by omega)
  have h3 := Int.emod_lt_of_pos a hm
  split at h1 <;> omega
theorem mod_b {a m : Int} (hm : 0 < m) (h : ¬ Int.tmod a m < 0) : Int.tmod a m = a % m := by
  have h1 := Int.tmod_eq_emod (a := a) (b := m)
  have h2 := Int.emod_nonneg a (show m ≠ 0 by omega)
  have h3 := Int.emod_lt_of_pos a hm
  split at h1 <;> omega
theorem mod_ok {a m : Int} {b : Nat} (hm : 0 < m) (hb : Int.natAbs m ≤ b) : (a % m).natAbs ≤ b := by
  have h2 := Int.emod_nonneg a (show m ≠ 0 by omega)
  have h3 := Int.emod_lt_of_pos a hm
  omega
def nextV (s : Dice) (m : Int) : Int := if s.1.length ≤ s.2 then 0 else s.1.getD s.2 0 % m
def nextS (s : Dice) : Dice := if s.1.length ≤ s.2 then s else (s.1, s.2 + 1)
theorem nextV_b {s : Dice} {m : Int} {b : Nat} (hm : 0 < m) (hb : Int.natAbs m ≤ b) : (nextV s m).natAbs ≤ b := by
  unfold nextV; split
  · simp
  · exact mod_ok hm hb
theorem nextV_r (s : Dice) {m : Int} (hm : 0 < m) : 0 ≤ nextV s m ∧ nextV s m < m := by
  unfold nextV; split
  · omega
  · exact ⟨Int.emod_nonneg _ (by omega), Int.emod_lt_of_pos _ hm⟩
theorem nextS_b {s : Dice} {b : Bd} (h : Bnd tDice b s) : Bnd tDice (.p b.l (.n (max b.r.nb b.l.len))) (nextS s) := by
  have h1 := h.pr
  have h2 := h1.2.nat
  have h3 := h1.1.sl.1
  unfold nextS; split
  · exact ⟨h1.1, Nat.le_trans h2 (Nat.le_max_left _ _)⟩
  · refine ⟨h1.1, ?_⟩
    show s.2 + 1 ≤ _
    have := Nat.le_max_right b.r.nb b.l.len
    omega
theorem nextS_b' {s : Dice} {b : Bd} (h : Bnd tDice (.p b.l (.n (max b.r.nb b.l.len))) s) : Bnd tDice (.p b.l (.n (max b.r.nb b.l.len))) (nextS s) := by
  have := nextS_b h
  simpa [Bd.l, Bd.r, Bd.nb, Nat.max_assoc] using this
theorem dice_w {s : Dice} {b : Bd} (h : Bnd tDice b s) : Bnd tDice (.p b.l (.n (max b.r.nb b.l.len))) s :=
  ⟨h.pr.1, Nat.le_trans h.pr.2.nat (Nat.le_max_left _ _)⟩
def numV (s : Dice) : Rat := if nextV (nextS s) 4 = 3 then ((nextV s 13 - 6 : Int) : Rat) / ((1 + nextV (nextS (nextS s)) 4 : Int) : Rat) else ((nextV s 13 - 6 : Int) : Rat)
def numS (s : Dice) : Dice := if nextV (nextS s) 4 = 3 then nextS (nextS (nextS s)) else nextS (nextS s)
theorem numS_b {s : Dice} {b : Bd} (h : Bnd tDice b s) : Bnd tDice (.p b.l (.n (max b.r.nb b.l.len))) (numS s) := by
  have h1 := nextS_b' (nextS_b h)
  unfold numS; split
  · exact nextS_b' h1
  · exact h1
theorem numS_b' {s : Dice} {b : Bd} (h : Bnd tDice (.p b.l (.n (max b.r.nb b.l.len))) s) : Bnd tDice (.p b.l (.n (max b.r.nb b.l.len))) (numS s) := by
  have h1 := nextS_b' (nextS_b' h)
  unfold numS; split
  · exact nextS_b' h1
  · exact h1
theorem numV_b (s : Dice) : Bnd .rat (.n 5) (numV s) := by
  have h1 := nextV_r s (m := 13) (by omega)
  have h2 := nextV_r (nextS (nextS s)) (m := 4) (by omega)
  have e1 : Nat.log2 19 + 1 = 5 := by decide
  have e2 : max (Nat.log2 19 + 1) (Nat.log2 5 + 1) = 5 := by decide
  unfold numV; split
  · have := make_bnd (n := nextV s 13 - 6) (d := 1 + nextV (nextS (nextS s)) 4) (b := 19) (c := 5) (by omega) (by omega)
    rwa [e2] at this
  · have := int_bnd (v := nextV s 13 - 6) (b := 19) (by omega)
    rwa [e1] at this
def pointV (s : Dice) : V3 := (numV s, numV (numS s), numV (numS (numS s)))
def pointS (s : Dice) : Dice := numS (numS (numS s))
def oneV (s : Dice) : Rat := if nextV (nextS s) 4 = 3 then ((nextV (nextS (nextS s)) 9 : Int) : Rat) / ((2 : Int) : Rat) else ((nextV s 5 : Int) : Rat)
def oneS (s : Dice) : Dice := if nextV (nextS s) 4 = 3 then nextS (nextS (nextS s)) else nextS (nextS s)
theorem oneS_b' {s : Dice} {b : Bd} (h : Bnd tDice (.p b.l (.n (max b.r.nb b.l.len))) s) : Bnd tDice (.p b.l (.n (max b.r.nb b.l.len))) (oneS s) := by
  have h1 := nextS_b' (nextS_b' h)
  unfold oneS; split
  · exact nextS_b' h1
  · exact h1
theorem oneV_b (s : Dice) : Bnd .rat (.n 5) (oneV s) := by
  have h1 := nextV_r s (m := 5) (by omega)
  have h2 := nextV_r (nextS (nextS s)) (m := 9) (by omega)
  have e1 : Nat.log2 19 + 1 = 5 := by decide
  have e2 : max (Nat.log2 19 + 1) (Nat.log2 5 + 1) = 5 := by decide
  unfold oneV; split
  · have := make_bnd (n := nextV (nextS (nextS s)) 9) (d := 2) (b := 19) (c := 5) (by omega) (by omega)
    rwa [e2] at this
  · have := int_bnd (v := nextV s 5) (b := 19) (by omega)
    rwa [e1] at this
def spotV (s : Dice) : V3 := (oneV s, oneV (oneS s), oneV (oneS (oneS s)))
def spotS (s : Dice) : Dice := oneS (oneS (oneS s))
theorem pointS_b {s : Dice} {b : Bd} (h : Bnd tDice b s) : Bnd tDice (.p b.l (.n (max b.r.nb b.l.len))) (pointS s) := by
  unfold pointS; exact numS_b' (b := b) (numS_b' (b := b) (numS_b (b := b) h))
theorem spotS_b {s : Dice} {b : Bd} (h : Bnd tDice b s) : Bnd tDice (.p b.l (.n (max b.r.nb b.l.len))) (spotS s) := by
  unfold spotS; exact oneS_b' (b := b) (oneS_b' (b := b) (oneS_b' (b := b) (dice_w (b := b) h)))
theorem pointV_b (s : Dice) : Bnd tV3 (bV3 5) (pointV s) := by
  have h1 := numV_b s; have h2 := numV_b (numS s); have h3 := numV_b (numS (numS s))
  unfold pointV
  generalize numV s = a at *; generalize numV (numS s) = c at *; generalize numV (numS (numS s)) = d at *
  exact ⟨h1, h2, h3⟩
theorem spotV_b (s : Dice) : Bnd tV3 (bV3 5) (spotV s) := by
  have h1 := oneV_b s; have h2 := oneV_b (oneS s); have h3 := oneV_b (oneS (oneS s))
  unfold spotV
  generalize oneV s = a at *; generalize oneV (oneS s) = c at *; generalize oneV (oneS (oneS s)) = d at *
  exact ⟨h1, h2, h3⟩
end Go.Proofs.YtcjgaaibflcdiaaGreat.Sx

namespace Go.Proofs.YtcjgaaibflcdiaaGreat.Sx
open Go Go.Proofs
set_option linter.unusedVariables false
set_option linter.unusedSimpArgs false
set_option maxRecDepth 20000
set_option maxHeartbeats 4000000
abbrev light_i : FI := ⟨7, [(.sl (.int .i64))], [(.s 9223372036854775807 (.n 9223372036854775808))], fun _ => [], fun b z => (fun (l : List Int) => .c (.one (.dt .bool .u (decide (l.length ≤ 500))))) z⟩
theorem light_k : light_i.OK Tryz.prog := mkF hmix 6 Tryz.func7 rfl rfl (by decide) [] (fun _ => rfl) (fun _ => rfl) (fun _ _ => rfl) (fun (l : List Int) b hx hp => one_ok trivial rfl) (fun (l : List Int) hx hp => by
 exact ⟨.nil, kcast (by kernel_rfl) ((Eq.refl (decide (l.length ≤ 500))))⟩)
abbrev light_c : Ctr Tryz.prog := FI.c light_k
abbrev dmod_i : FI := ⟨12, [(.int .i64), (.int .i64)], [(.n 9223372036854775808), (.n 1099511627776)], fun z => (fun (a : Int) (m : Int) => [(0 : Int) < m]) z.1 z.2, fun b z => (fun (a : Int) (m : Int) => .c (.one (.dt (.int .i64) (.n (b1 b).nb) (a % m)))) z.1 z.2⟩
theorem dmod_k : dmod_i.OK Tryz.prog := mkF hmix 14 Tryz.func12 rfl rfl (by decide) [] (fun _ => rfl) (fun _ => rfl) (fun _ _ => rfl) (fun (a : Int) (m : Int) b hx hp => one_ok (mod_ok (hp _ List.mem_cons_self) (Bnds.h2 hx).2.int) rfl) (fun (a : Int) (m : Int) hx hp => by
 have hx0 : Int.natAbs a ≤ 9223372036854775808 := hx.1
 have hx1 : Int.natAbs m ≤ 1099511627776 := hx.2
 have hp0 : (0 : Int) < m := hp _ (List.mem_cons_self)
 exact ⟨.nil, kcast (by kernel_rfl) (I (by omega : m ≠ 0) (And.intro (fun (h1 : Int.tmod a m < 0) => (mod_a hp0 h1 : (Int.tmod a m) + m = a % m)) (fun (h2 : ¬ (Int.tmod a m < 0)) => (mod_b hp0 h2 : Int.tmod a m = a % m))))⟩)
abbrev dmod_c : Ctr Tryz.prog := FI.c dmod_k
abbrev droll_i : FO := ⟨9, [(.sl (.int .i64))], [(.s 1048576 (.n 9223372036854775808))], fun _ => [], fun k b z => .c (.one (.loc k 0)), fun b z => (fun (l : List Int) => .rig [.dt (.pr (.sl (.int .i64)) (.nat .i64)) (.p (b0 b) (.n 0)) ((l, 0))]) z⟩
theorem droll_k : droll_i.OK Tryz.prog := mkO hmix 6 5 Tryz.func9 rfl rfl (by decide) [] (fun _ => rfl) (fun _ _ _ => rfl) (fun _ _ => rfl) (fun _ _ _ => ⟨rfl, rfl⟩) (fun (l : List Int) k b hx hp => ⟨⟨trivial, rfl⟩, one_ok_dt (show Bnd tDice (.p (b0 b) (.n 0)) (l, 0) from ⟨Bnds.h1 hx, Nat.le_refl _⟩)⟩) (fun (l : List Int) hx hp => by
 exact bodyO.p (.nil) (kcast (by kernel_rfl) (And.intro (rfl : (l, 0) = (l, 0)) (rfl : 5 = 5))))
abbrev droll_c : CtrO Tryz.prog := FO.c droll_k
abbrev dnext_i : FB := ⟨18, (.pr (.sl (.int .i64)) (.nat .i64)), (.p (.s 1048576 (.n 9223372036854775808)) (.n 1048576)), [(.int .i64)], [(.n 1099511627776)], fun s z => (fun (m : Int) => [(0 : Int) < m]) z, fun tb b s z => (fun (m : Int) => .c (.one (.dt (.int .i64) (.n (b0 b).nb) (nextV s m)))) z, fun s z => nextS s, fun tb b => .p tb.l (.n (max tb.r.nb tb.l.len))⟩
theorem dnext_k : dnext_i.OK Tryz.prog := mkB' hmix 35 Tryz.func18 rfl rfl (by decide) [(12, .c dmod_c)] (fun _ => rfl) (fun _ _ => rfl) (fun _ _ _ _ => rfl) (fun (s : List Int × Nat) (m : Int) tb b hs hx hp => ⟨one_ok (nextV_b (hp _ List.mem_cons_self) (Bnds.h1 hx).int) rfl, nextS_b hs⟩) (fun (s : List Int × Nat) (m : Int) hs hx hp => by
 have hx0 : Int.natAbs m ≤ 1099511627776 := hx
 have hp0 : (0 : Int) < m := hp _ (List.mem_cons_self)
 have hsl : s.1.length ≤ 1048576 := hs.1.1
 exact ⟨.cond (.nil) (.h 4 9 (.ix s.2) (.nil)), kcast (by kernel_rfl) (And.intro (fun (h1 : s.1.length ≤ s.2) => And.intro ((if_pos h1).symm : s = nextS s) (((if_pos h1).symm : 0 = nextV s m))) (fun (h2 : ¬ (s.1.length ≤ s.2)) => I (by omega : ((s.2 + 1 : Nat) : Int) - 1 = ((s.2 : Nat) : Int)) (I (by omega : s.2 < s.1.length) (I (hp0 : (0 : Int) < m) (And.intro ((if_neg h2).symm : (s.1, s.2 + 1) = nextS s) (((if_neg h2).symm : (s.1.getD s.2 0) % m = nextV s m)))))))⟩)
abbrev dnext_c : CtrB Tryz.prog := FB.c dnext_k
abbrev dbool_i : FB := ⟨36, (.pr (.sl (.int .i64)) (.nat .i64)), (.p (.s 1048576 (.n 9223372036854775808)) (.n 1048576)), [(.int .i64)], [(.n 1099511627776)], fun s z => (fun (m : Int) => [(0 : Int) < m]) z, fun tb b s z => (fun (m : Int) => .c (.one (.dt .bool .u (decide (nextV s m = m - 1))))) z, fun s z => nextS s, fun tb b => .p tb.l (.n (max tb.r.nb tb.l.len))⟩
theorem dbool_k : dbool_i.OK Tryz.prog := mkB' hmix 11 Tryz.func36 rfl rfl (by decide) [(18, .b dnext_c)] (fun _ => rfl) (fun _ _ => rfl) (fun _ _ _ _ => rfl) (fun (s : List Int × Nat) (m : Int) tb b hs hx hp => ⟨one_ok trivial rfl, nextS_b hs⟩) (fun (s : List Int × Nat) (m : Int) hs hx hp => by
 have hp0 : (0 : Int) < m := hp _ (List.mem_cons_self)
 exact ⟨.nil, kcast (by kernel_rfl) (I (hp0 : (0 : Int) < m) (And.intro (Eq.refl (nextS s)) ((Eq.refl (decide (nextV s m = m - 1))))))⟩)
abbrev dbool_c : CtrB Tryz.prog := FB.c dbool_k
end Go.Proofs.YtcjgaaibflcdiaaGreat.Sx

namespace Go.Proofs.YtcjgaaibflcdiaaGreat.Sx
open Go Go.Proofs
set_option linter.unusedVariables false
set_option linter.unusedSimpArgs false
set_option maxRecDepth 20000
set_option maxHeartbeats 4000000
abbrev trim_i : FI := ⟨152, [(.sl (.nat .u32))], [(.s 1099511627776 (.n 4294967295))], fun z => (fun (ls : List Nat) => [∀ u ∈ ls, u < 4294967296]) z, fun b z => (fun (ls : List Nat) => .c (.one (.dt .mag (.n (32 * (b0 b).len)) (valL ls)))) z⟩
theorem trim_k : trim_i.OK Tryz.prog := mkF hmix 21 Tryz.func152 rfl rfl (by decide) [] (fun _ => rfl) (fun _ => rfl) (fun _ _ => rfl) (fun (ls : List Nat) b hx hp => one_ok (lt2_valL (hp _ (List.mem_cons_self)) (Bnds.h1 hx).sl.1) rfl) (fun (ls : List Nat) hx hp => by
 have hl0 : ls.length ≤ 1099511627776 := hx.1
 have hp0 : ∀ u ∈ ls, u < 4294967296 := hp _ (List.mem_cons_self)
 exact ⟨.loop [.s 3 (.nat .i64) (.n 1099511627776)] (fun (k : Nat) => k ≤ ls.length ∧ valL (ls.take k) = valL ls) (fun (k : Nat) => k) (fun (k : Nat) => .cond (.h 2 5 (.i .sub) (.cond (.h 3 1 (.i .sub) (.nil)) (.h 4 2 (.mag (valL ls) 70368744177664) (.nil)))) (.h 4 2 (.mag (valL ls) 70368744177664) (.nil))), kcast (by kernel_rfl) (I (⟨Nat.le_refl _, by rw [List.take_length]⟩ : ls.length ≤ ls.length ∧ valL (ls.take ls.length) = valL ls) (fun (k : Nat) (hb1 : HB [.s 3 (.nat .i64) (.n 1099511627776)] k) (hC : k ≤ ls.length ∧ valL (ls.take k) = valL ls) => have hv6 := (show k ≤ 1099511627776 from hb1); have hk := hC.1; And.intro (fun (h2 : 0 < k) => I (by omega : 1 ≤ k) (I (by omega : k - 1 < ls.length) (And.intro (fun (h3 : ls.getD (k - 1) 0 = 0) => I (by omega : 1 ≤ k) (And.intro (⟨by omega, trim_step hC.1 (by omega) hC.2 (by omega)⟩ : k - 1 ≤ ls.length ∧ valL (ls.take (k - 1)) = valL ls) (by omega : k - 1 < k))) (fun (h4 : ¬ (ls.getD (k - 1) 0 = 0)) => I (by omega : k ≤ ls.length) (I (trim_end hp0 hC.1 hC.2 (by omega) : ls.take k = limbs (valL ls)) (I (lt2_mono (by decide) (lt2_valL hp0 hl0) : lt2 (valL ls) 70368744177664) ((Eq.refl (valL ls))))))))) (fun (h5 : ¬ (0 < k)) => I (by omega : k ≤ ls.length) (I (trim_end hp0 hC.1 hC.2 (by omega) : ls.take k = limbs (valL ls)) (I (lt2_mono (by decide) (lt2_valL hp0 hl0) : lt2 (valL ls) 70368744177664) ((Eq.refl (valL ls))))))))⟩)
abbrev trim_c : Ctr Tryz.prog := FI.c trim_k
abbrev trim_R (b : List Bd) (ls : List Nat) : WV := .c (.one (.dt .mag (.n (32 * (b0 b).len)) (valL ls)))
theorem trim_sig (ls : List Nat) (hx : Bnds [(.sl (.nat .u32))] [(.s 1099511627776 (.n 4294967295))] ls) (hp : ∀ c0 ∈ ([∀ u ∈ ls, u < 4294967296] : List Prop), c0) : Sig Tryz.prog 152 (argsE [(.sl (.nat .u32))] ls) (trim_R [(.s 1099511627776 (.n 4294967295))] ls).exp := trim_k.sig ls hx hp
theorem trimM_ok (b : List Bd) (x : Nat) (hx : Bnds [.mag] b x) (hp : ∀ p ∈ ([] : List Prop), p) : (WV.c (.one (.dt .mag (b0 b) x))).ok := one_ok (Bnds.h1 hx) rfl
theorem trimM_sig (x : Nat) (hx : Bnds [.mag] [.n 1099511627776] x) (hp : ∀ p ∈ ([] : List Prop), p) : Sig Tryz.prog 152 (argsE [.mag] x) (WV.c (.one (.dt .mag (.n 1099511627776) x))).exp := by
  have h := trim_sig (limbs x) ⟨Nat.le_trans (limbs_len_le (Nat.le_of_lt hx)) (by decide), (Bnd.limbs hx).2⟩ (by intro p hp; simp only [List.mem_cons, List.not_mem_nil, or_false] at hp; subst hp; exact limbs_lt x)
  unfold trim_R at h; rw [valL_limbs, ← argsE_mag] at h; exact h
def trimM_c : Ctr Tryz.prog := ⟨152, [.mag], [.n 1099511627776], fun z => [], fun b z => .c (.one (.dt .mag (b0 b) z)), fun z hx hp => trimM_sig z hx hp, fun _ _ => rfl, fun b z hx hp => trimM_ok b z hx hp⟩
abbrev add_i : FI := ⟨150, [.mag, .mag], [(.n 1099511627776), (.n 1099511627776)], fun _ => [], fun b z => (fun (x : Nat) (y : Nat) => .c (.one (.dt .mag (.n (max (b0 b).nb (b1 b).nb + 1)) (x + y)))) z.1 z.2⟩
theorem add_k : add_i.OK Tryz.prog := mkF hmix 58 Tryz.func150 rfl rfl (by decide) [] (fun _ => rfl) (fun _ => rfl) (fun _ _ => rfl) (fun (x : Nat) (y : Nat) b hx hp => one_ok (lt2_add (Bnds.h2 hx).1.mag (Bnds.h2 hx).2.mag) rfl) (fun (x : Nat) (y : Nat) hx hp => by
 have hx0 : lt2 x 1099511627776 := hx.1
 have hl0 : (limbs x).length ≤ 34359738369 := limbs_len_le (Nat.le_of_lt hx0)
 have hx1 : lt2 y 1099511627776 := hx.2
 have hl1 : (limbs y).length ≤ 34359738369 := limbs_len_le (Nat.le_of_lt hx1)
 exact ⟨.cond (.h 3 3 (.mk (.arr (.nat .u32) (.n 4294967295))) (.loop [.s 22 (.nat .i64) (.n 34359738369), .s 6 (.nat .u64) (.n 1), .a 19 (.nat .u32) (.n 4294967295)] (fun ((i, c, out) : Nat × Nat × List Nat) => AddI y x i c out) (fun ((i, c, out) : Nat × Nat × List Nat) => (limbs y).length - i) (fun ((i, c, out) : Nat × Nat × List Nat) => .cond (.nil) (.pre 15 (.frz 19 true [5]) (.h 15 1 (.c trim_c) (.nil)))))) (.h 3 3 (.mk (.arr (.nat .u32) (.n 4294967295))) (.loop [.s 22 (.nat .i64) (.n 34359738369), .s 6 (.nat .u64) (.n 1), .a 19 (.nat .u32) (.n 4294967295)] (fun ((i, c, out) : Nat × Nat × List Nat) => AddI x y i c out) (fun ((i, c, out) : Nat × Nat × List Nat) => (limbs x).length - i) (fun ((i, c, out) : Nat × Nat × List Nat) => .cond (.nil) (.pre 15 (.frz 19 true [5]) (.h 15 1 (.c trim_c) (.nil)))))), kcast (by kernel_rfl) (And.intro (fun (h1 : (limbs x).length < (limbs y).length) => I (by omega : ((limbs y).length) + 1 = ((limbs y).length) + 1) (I (AddI.start y x : AddI y x 0 0 (List.replicate (((limbs y).length) + 1) (0 : Nat))) (fun (i : Nat) (c : Nat) (out : List Nat) (hb2 : HB [.s 22 (.nat .i64) (.n 34359738369), .s 6 (.nat .u64) (.n 1), .a 19 (.nat .u32) (.n 4294967295)] (i, c, out)) (hI : AddI y x i c out) => have hv7 := (show i ≤ 34359738369 from hb2.1); have hv8 := (show c ≤ 1 from hb2.2.1); have hv9 := (show ∀ u ∈ out, u ≤ 4294967295 from hb2.2.2); have hIl := hI.hl; have hIi := hI.hi; have hIc := hI.hc; And.intro (fun (h3 : i < (limbs y).length) => I (by omega : i < (limbs y).length) (And.intro (fun (h4 : i < (limbs x).length) => I (by omega : i < (limbs x).length) (I (by omega : i < ((limbs y).length) + 1) (I (by omega : i < out.length) (I (show (i + 1) ≤ 34359738369 by omega : Bnd (.nat .i64) (.n 34359738369) (i + 1)) (And.intro (hI.step (by omega) (by first | rfl | rw [getD_out (l := limbs x) (by omega), Nat.add_zero]) : AddI y x (i + 1) (((c + ((limbs y).getD i 0)) + ((limbs x).getD i 0)) / 2 ^ 32) (out.set i (((c + ((limbs y).getD i 0)) + ((limbs x).getD i 0)) % 4294967296))) (by omega : (limbs y).length - (i + 1) < (limbs y).length - i)))))) (fun (h5 : ¬ (i < (limbs x).length)) => I (by omega : i < ((limbs y).length) + 1) (I (by omega : i < out.length) (I (show (i + 1) ≤ 34359738369 by omega : Bnd (.nat .i64) (.n 34359738369) (i + 1)) (And.intro (hI.step (by omega) (by first | rfl | rw [getD_out (l := limbs x) (by omega), Nat.add_zero]) : AddI y x (i + 1) ((c + ((limbs y).getD i 0)) / 2 ^ 32) (out.set i ((c + ((limbs y).getD i 0)) % 4294967296))) (by omega : (limbs y).length - (i + 1) < (limbs y).length - i))))))) (fun (h6 : ¬ (i < (limbs y).length)) => have hF := hI.fin' (by omega) (by omega); I (by omega : (limbs y).length < ((limbs y).length) + 1) (I (by omega : (limbs y).length < out.length) (I (eq_len_set (by omega) : ((limbs y).length) + 1 = (out.set ((limbs y).length) c).length) (I (hF.2 : ∀ u ∈ out.set ((limbs y).length) c, u < 4294967296) ((by rw [hF.1] <;> omega : valL (out.set ((limbs y).length) c) = x + y))))))))) (fun (h10 : ¬ ((limbs x).length < (limbs y).length)) => I (by omega : ((limbs x).length) + 1 = ((limbs x).length) + 1) (I (AddI.start x y : AddI x y 0 0 (List.replicate (((limbs x).length) + 1) (0 : Nat))) (fun (i : Nat) (c : Nat) (out : List Nat) (hb11 : HB [.s 22 (.nat .i64) (.n 34359738369), .s 6 (.nat .u64) (.n 1), .a 19 (.nat .u32) (.n 4294967295)] (i, c, out)) (hI : AddI x y i c out) => have hv16 := (show i ≤ 34359738369 from hb11.1); have hv17 := (show c ≤ 1 from hb11.2.1); have hv18 := (show ∀ u ∈ out, u ≤ 4294967295 from hb11.2.2); have hIl := hI.hl; have hIi := hI.hi; have hIc := hI.hc; And.intro (fun (h12 : i < (limbs x).length) => I (by omega : i < (limbs x).length) (And.intro (fun (h13 : i < (limbs y).length) => I (by omega : i < (limbs y).length) (I (by omega : i < ((limbs x).length) + 1) (I (by omega : i < out.length) (I (show (i + 1) ≤ 34359738369 by omega : Bnd (.nat .i64) (.n 34359738369) (i + 1)) (And.intro (hI.step (by omega) (by first | rfl | rw [getD_out (l := limbs y) (by omega), Nat.add_zero]) : AddI x y (i + 1) (((c + ((limbs x).getD i 0)) + ((limbs y).getD i 0)) / 2 ^ 32) (out.set i (((c + ((limbs x).getD i 0)) + ((limbs y).getD i 0)) % 4294967296))) (by omega : (limbs x).length - (i + 1) < (limbs x).length - i)))))) (fun (h14 : ¬ (i < (limbs y).length)) => I (by omega : i < ((limbs x).length) + 1) (I (by omega : i < out.length) (I (show (i + 1) ≤ 34359738369 by omega : Bnd (.nat .i64) (.n 34359738369) (i + 1)) (And.intro (hI.step (by omega) (by first | rfl | rw [getD_out (l := limbs y) (by omega), Nat.add_zero]) : AddI x y (i + 1) ((c + ((limbs x).getD i 0)) / 2 ^ 32) (out.set i ((c + ((limbs x).getD i 0)) % 4294967296))) (by omega : (limbs x).length - (i + 1) < (limbs x).length - i))))))) (fun (h15 : ¬ (i < (limbs x).length)) => have hF := hI.fin' (by omega) (by omega); I (by omega : (limbs x).length < ((limbs x).length) + 1) (I (by omega : (limbs x).length < out.length) (I (eq_len_set (by omega) : ((limbs x).length) + 1 = (out.set ((limbs x).length) c).length) (I (hF.2 : ∀ u ∈ out.set ((limbs x).length) c, u < 4294967296) ((by rw [hF.1] <;> omega : valL (out.set ((limbs x).length) c) = x + y))))))))))⟩)
abbrev add_c : Ctr Tryz.prog := FI.c add_k
abbrev add_R (b : List Bd) (x : Nat) (y : Nat) : WV := .c (.one (.dt .mag (.n (max (b0 b).nb (b1 b).nb + 1)) (x + y)))
theorem add_sig (x : Nat) (y : Nat) (hx : Bnds [.mag, .mag] [(.n 1099511627776), (.n 1099511627776)] (x, y)) (hp : ∀ c0 ∈ ([] : List Prop), c0) : Sig Tryz.prog 150 (argsE [.mag, .mag] (x, y)) (add_R [(.n 1099511627776), (.n 1099511627776)] x y).exp := add_k.sig (x, y) hx hp
end Go.Proofs.YtcjgaaibflcdiaaGreat.Sx

namespace Go.Proofs.YtcjgaaibflcdiaaGreat.Sx
open Go Go.Proofs
set_option linter.unusedVariables false
set_option linter.unusedSimpArgs false
set_option maxRecDepth 20000
set_option maxHeartbeats 4000000
abbrev mul_i : FI := ⟨97, [.mag, .mag], [(.n 1099511627776), (.n 1099511627776)], fun _ => [], fun b z => (fun (x : Nat) (y : Nat) => .c (.one (.dt .mag (.n ((b0 b).nb + (b1 b).nb)) (x * y)))) z.1 z.2⟩
theorem mul_k : mul_i.OK Tryz.prog := mkF hmix 69 Tryz.func97 rfl rfl (by decide) [] (fun _ => rfl) (fun _ => rfl) (fun _ _ => rfl) (fun (x : Nat) (y : Nat) b hx hp => one_ok (lt2_mul (Bnds.h2 hx).1.mag (Bnds.h2 hx).2.mag) rfl) (fun (x : Nat) (y : Nat) hx hp => by
 have hx0 : lt2 x 1099511627776 := hx.1
 have hl0 : (limbs x).length ≤ 34359738369 := limbs_len_le (Nat.le_of_lt hx0)
 have hx1 : lt2 y 1099511627776 := hx.2
 have hl1 : (limbs y).length ≤ 34359738369 := limbs_len_le (Nat.le_of_lt hx1)
 exact ⟨.h 1 5 (.mk (.arr (.nat .u32) (.n 4294967295))) (.loop [.s 19 (.nat .i64) (.n 34359738369), .a 16 (.nat .u32) (.n 4294967295)] (fun ((i, out) : Nat × List Nat) => MulI x y i out) (fun ((i, out) : Nat × List Nat) => (limbs x).length - i) (fun ((i, out) : Nat × List Nat) => .cond (.cond (.nil) (.loop [.s 28 (.nat .i64) (.n 34359738369), .s 8 (.nat .u64) (.n 4294967295), .a 16 (.nat .u32) (.n 4294967295)] (fun ((j, c, out2) : Nat × Nat × List Nat) => MulJ x y i ((limbs x).getD i 0) j c out out2) (fun ((j, c, out2) : Nat × Nat × List Nat) => (limbs y).length - j) (fun ((j, c, out2) : Nat × Nat × List Nat) => .nil))) (.pre 16 (.frz 16 true [5]) (.h 16 1 (.c trim_c) (.nil))))), kcast (by kernel_rfl) (I (by omega : ((limbs x).length) + ((limbs y).length) = ((limbs x).length) + ((limbs y).length)) (I (MulI.start x y : MulI x y 0 (List.replicate (((limbs x).length) + ((limbs y).length)) (0 : Nat))) (fun (i : Nat) (out : List Nat) (hb1 : HB [.s 19 (.nat .i64) (.n 34359738369), .a 16 (.nat .u32) (.n 4294967295)] (i, out)) (hM : MulI x y i out) => have hv12 := (show i ≤ 34359738369 from hb1.1); have hv13 := (show ∀ u ∈ out, u ≤ 4294967295 from hb1.2); have hMl := hM.hl; have hMi := hM.hi; And.intro (fun (h2 : i < (limbs x).length) => I (by omega : i < (limbs x).length) (And.intro (fun (h3 : (limbs x).getD i 0 = 0) => I (show (i + 1) ≤ 34359738369 by omega : Bnd (.nat .i64) (.n 34359738369) (i + 1)) (And.intro (hM.skip (by omega) (by omega) : MulI x y (i + 1) out) (by omega : (limbs x).length - (i + 1) < (limbs x).length - i))) (fun (h4 : ¬ ((limbs x).getD i 0 = 0)) => I (MulJ.start hM : MulJ x y i ((limbs x).getD i 0) 0 0 out out) (fun (j : Nat) (c : Nat) (out2 : List Nat) (hb5 : HB [.s 28 (.nat .i64) (.n 34359738369), .s 8 (.nat .u64) (.n 4294967295), .a 16 (.nat .u32) (.n 4294967295)] (j, c, out2)) (hJ : MulJ x y i ((limbs x).getD i 0) j c out out2) => have hv8 := (show j ≤ 34359738369 from hb5.1); have hv9 := (show c ≤ 4294967295 from hb5.2.1); have hv10 := (show ∀ u ∈ out2, u ≤ 4294967295 from hb5.2.2); have hJl := hJ.hl; have hJj := hJ.hj; have hJc := hJ.hc; And.intro (fun (h6 : j < (limbs y).length) => I (by omega : j < (limbs y).length) (I (by omega : i + j < ((limbs x).length) + ((limbs y).length)) (I (by omega : i + j < out2.length) (I (by omega : i + j < ((limbs x).length) + ((limbs y).length)) (I (by omega : i + j < out2.length) (I (show (j + 1) ≤ 34359738369 by omega : Bnd (.nat .i64) (.n 34359738369) (j + 1)) (And.intro ((hJ.step (by omega) (by omega) (limbs_getD_lt x i) rfl).1 : MulJ x y i ((limbs x).getD i 0) (j + 1) ((c + ((((limbs x).getD i 0) * ((limbs y).getD j 0)) + (out2.getD (i + j) 0))) / 2 ^ 32) out (out2.set (i + j) ((c + ((((limbs x).getD i 0) * ((limbs y).getD j 0)) + (out2.getD (i + j) 0))) % 4294967296))) (by omega : (limbs y).length - (j + 1) < (limbs y).length - j)))))))) (fun (h7 : ¬ (j < (limbs y).length)) => I (by omega : i + ((limbs y).length) < ((limbs x).length) + ((limbs y).length)) (I (by omega : i + ((limbs y).length) < out2.length) (I (show (i + 1) ≤ 34359738369 by omega : Bnd (.nat .i64) (.n 34359738369) (i + 1)) (And.intro (MulJ.fin' hM (by omega) hJ (by omega) : MulI x y (i + 1) (out2.set (i + ((limbs y).length)) c)) (by omega : (limbs x).length - (i + 1) < (limbs x).length - i))))))))) (fun (h11 : ¬ (i < (limbs x).length)) => I (by omega : ((limbs x).length) + ((limbs y).length) = out.length) (have hF := hM.fin' (by omega); I (hF.2 : ∀ u ∈ out, u < 4294967296) ((hF.1 : valL out = x * y)))))))⟩)
abbrev mul_c : Ctr Tryz.prog := FI.c mul_k
abbrev cmp_i : FI := ⟨193, [.mag, .mag], [(.n 1099511627776), (.n 1099511627776)], fun _ => [], fun b z => (fun (x : Nat) (y : Nat) => .c (.one (.dt (.int .i64) (.n 1) (cmpN x y)))) z.1 z.2⟩
theorem cmp_k : cmp_i.OK Tryz.prog := mkF hmix 45 Tryz.func193 rfl rfl (by decide) [(152, .c trimM_c)] (fun _ => rfl) (fun _ => rfl) (fun _ _ => rfl) (fun (x : Nat) (y : Nat) b hx hp => one_ok (cmp_abs x y) rfl) (fun (x : Nat) (y : Nat) hx hp => by
 have hx0 : lt2 x 1099511627776 := hx.1
 have hl0 : (limbs x).length ≤ 34359738369 := limbs_len_le (Nat.le_of_lt hx0)
 have hx1 : lt2 y 1099511627776 := hx.2
 have hl1 : (limbs y).length ≤ 34359738369 := limbs_len_le (Nat.le_of_lt hx1)
 exact ⟨.cond (.nil) (.loop [.s 5 (.int .i64) (.n 68719476736)] (fun (z : Int) => CmpI x y z) (fun (z : Int) => (z + 1).toNat) (fun (z : Int) => .cond (.h 9 2 (.ix z.toNat) (.h 9 6 (.ix z.toNat) (.cond (.h 10 2 (.ix z.toNat) (.h 10 6 (.ix z.toNat) (.nil))) (.nil)))) (.nil))), kcast (by kernel_rfl) (And.intro (fun (h1 : (limbs x).length ≠ (limbs y).length) => And.intro (fun (h2 : (limbs x).length < (limbs y).length) => (by first | exact (cmp_len1 (by omega)).symm | exact ((hC.at (by omega) (by omega)).2.1 (by omega)).symm : (-1) = cmpN x y)) (fun (h3 : ¬ ((limbs x).length < (limbs y).length)) => (by first | exact (cmp_len2 (by omega)).symm | exact ((hC.at (by omega) (by omega)).2.2 (by omega)).symm : 1 = cmpN x y))) (fun (h4 : ¬ ((limbs x).length ≠ (limbs y).length)) => I (CmpI.start (by omega) : CmpI x y ((((limbs x).length : Nat) : Int) - 1)) (fun (z : Int) (hb5 : HB [.s 5 (.int .i64) (.n 68719476736)] z) (hC : CmpI x y z) => have hv12 := (show Int.natAbs z ≤ 68719476736 from hb5); have hC0 := hC.h0; have hC1 := hC.h1; And.intro (fun (h6 : 0 ≤ z) => I (by omega : z = ((z.toNat : Nat) : Int)) (I (by omega : z.toNat < (limbs x).length) (I (by omega : z = ((z.toNat : Nat) : Int)) (I (by omega : z.toNat < (limbs y).length) (And.intro (fun (h7 : (limbs x).getD z.toNat 0 ≠ (limbs y).getD z.toNat 0) => I (by omega : z = ((z.toNat : Nat) : Int)) (I (by omega : z.toNat < (limbs x).length) (I (by omega : z = ((z.toNat : Nat) : Int)) (I (by omega : z.toNat < (limbs y).length) (And.intro (fun (h8 : (limbs x).getD z.toNat 0 < (limbs y).getD z.toNat 0) => (by first | exact (cmp_len1 (by omega)).symm | exact ((hC.at (by omega) (by omega)).2.1 (by omega)).symm : (-1) = cmpN x y)) (fun (h9 : ¬ ((limbs x).getD z.toNat 0 < (limbs y).getD z.toNat 0)) => (by first | exact (cmp_len2 (by omega)).symm | exact ((hC.at (by omega) (by omega)).2.2 (by omega)).symm : 1 = cmpN x y))))))) (fun (h10 : ¬ ((limbs x).getD z.toNat 0 ≠ (limbs y).getD z.toNat 0)) => I (show Int.natAbs (z - 1) ≤ 68719476736 by omega : Bnd (.int .i64) (.n 68719476736) (z - 1)) (And.intro ((hC.at (by omega) (by omega)).1 (by omega) : CmpI x y (z - 1)) (by omega : ((z - 1) + 1).toNat < (z + 1).toNat)))))))) (fun (h11 : ¬ (0 ≤ z)) => ((hC.fin (by omega)).symm : 0 = cmpN x y)))))⟩)
abbrev cmp_c : Ctr Tryz.prog := FI.c cmp_k
abbrev sub_i : FI := ⟨151, [.mag, .mag], [(.n 1099511627776), (.n 1099511627776)], fun _ => [], fun b z => (fun (x : Nat) (y : Nat) => .tup [.one (.dt .mag (b0 b) (x - y)), .one (.dt (.int .i64) (.n 7) (subC x y))]) z.1 z.2⟩
theorem sub_k : sub_i.OK Tryz.prog := mkF hmix 54 Tryz.func151 rfl rfl (by decide) [(152, .c trimM_c), (193, .c cmp_c)] (fun _ => rfl) (fun _ => rfl) (fun _ _ => rfl) (fun (x : Nat) (y : Nat) b hx hp => tup_cons (one_ok (Bnd.magLe (Bnds.h2 hx).1 (Nat.sub_le _ _)) rfl) (tup_cons (one_ok (subC_b x y) rfl) tup_nil)) (fun (x : Nat) (y : Nat) hx hp => by
 have hx0 : lt2 x 1099511627776 := hx.1
 have hl0 : (limbs x).length ≤ 34359738369 := limbs_len_le (Nat.le_of_lt hx0)
 have hx1 : lt2 y 1099511627776 := hx.2
 have hl1 : (limbs y).length ≤ 34359738369 := limbs_len_le (Nat.le_of_lt hx1)
 exact ⟨.cond (.nil) (.h 4 2 (.mk (.arr (.nat .u32) (.n 4294967295))) (.loop [.s 23 (.nat .i64) (.n 34359738369), .s 7 (.nat .u64) (.n 1), .a 20 (.nat .u32) (.n 4294967295)] (fun ((i, c, out) : Nat × Nat × List Nat) => SubI x y i c out) (fun ((i, c, out) : Nat × Nat × List Nat) => (limbs x).length - i) (fun ((i, c, out) : Nat × Nat × List Nat) => .cond (.cond (.h 12 3 (.i (.n (dif ((limbs x).getD i 0) (c + ((limbs y).getD i 0))) 18446744073709551615)) (.nil)) (.h 12 3 (.i (.n (dif ((limbs x).getD i 0) c) 18446744073709551615)) (.nil))) (.pre 16 (.frz 20 true [6]) (.h 16 1 (.c trim_c) (.nil)))))), kcast (by kernel_rfl) (And.intro (fun (h1 : cmpN x y < 0) => And.intro (by have := cmp_lt0.1 (show cmpN x y < 0 by assumption); omega : 0 = x - y) ((if_pos (cmp_lt0.1 (by assumption))).symm : 7 = subC x y)) (fun (h2 : ¬ (cmpN x y < 0)) => have hp0 := (show y ≤ x from Nat.le_of_not_lt (mt cmp_lt0.2 (by assumption))); have hlen := nl_mono' hp0; I (by omega : (limbs x).length = (limbs x).length) (I (SubI.start x y : SubI x y 0 0 (List.replicate ((limbs x).length) (0 : Nat))) (fun (i : Nat) (c : Nat) (out : List Nat) (hb3 : HB [.s 23 (.nat .i64) (.n 34359738369), .s 7 (.nat .u64) (.n 1), .a 20 (.nat .u32) (.n 4294967295)] (i, c, out)) (hI : SubI x y i c out) => have hv8 := (show i ≤ 34359738369 from hb3.1); have hv9 := (show c ≤ 1 from hb3.2.1); have hv10 := (show ∀ u ∈ out, u ≤ 4294967295 from hb3.2.2); have hIl := hI.hl; have hIi := hI.hi; have hIc := hI.hc; have hg1 := limbs_getD_lt x i; have hg2 := limbs_getD_lt y i; And.intro (fun (h4 : i < (limbs x).length) => I (by omega : i < (limbs x).length) (And.intro (fun (h5 : i < (limbs y).length) => I (by omega : i < (limbs y).length) (I (bi_dif (by first | omega | exact Nat.lt_succ_of_le (dif_le _ _)) (by omega) : BinIs .sub .u64 (((limbs x).getD i 0 : Nat) : Int) ((c + ((limbs y).getD i 0) : Nat) : Int) ((dif ((limbs x).getD i 0) (c + ((limbs y).getD i 0)) : Nat) : Int)) (I (dif_le _ _ : dif ((limbs x).getD i 0) (c + ((limbs y).getD i 0)) ≤ 18446744073709551615) (I (by omega : i < (limbs x).length) (I (by omega : i < out.length) (I (show (i + 1) ≤ 34359738369 by omega : Bnd (.nat .i64) (.n 34359738369) (i + 1)) (And.intro (hI.step (by omega) (by first | rfl | rw [getD_out (l := limbs y) (by omega), Nat.add_zero]) : SubI x y (i + 1) ((dif ((limbs x).getD i 0) (c + ((limbs y).getD i 0))) / 2 ^ 63) (out.set i ((dif ((limbs x).getD i 0) (c + ((limbs y).getD i 0))) % 4294967296))) (by omega : (limbs x).length - (i + 1) < (limbs x).length - i)))))))) (fun (h6 : ¬ (i < (limbs y).length)) => I (bi_dif (by first | omega | exact Nat.lt_succ_of_le (dif_le _ _)) (by omega) : BinIs .sub .u64 (((limbs x).getD i 0 : Nat) : Int) (c : Int) ((dif ((limbs x).getD i 0) c : Nat) : Int)) (I (dif_le _ _ : dif ((limbs x).getD i 0) c ≤ 18446744073709551615) (I (by omega : i < (limbs x).length) (I (by omega : i < out.length) (I (show (i + 1) ≤ 34359738369 by omega : Bnd (.nat .i64) (.n 34359738369) (i + 1)) (And.intro (hI.step (by omega) (by first | rfl | rw [getD_out (l := limbs y) (by omega), Nat.add_zero]) : SubI x y (i + 1) ((dif ((limbs x).getD i 0) c) / 2 ^ 63) (out.set i ((dif ((limbs x).getD i 0) c) % 4294967296))) (by omega : (limbs x).length - (i + 1) < (limbs x).length - i))))))))) (fun (h7 : ¬ (i < (limbs x).length)) => I (by omega : (limbs x).length = out.length) (have hF := hI.fin' (by omega) hp0; I (hF.2 : ∀ u ∈ out, u < 4294967296) (And.intro (hF.1 : valL out = x - y) ((if_neg (by omega)).symm : 0 = subC x y))))))))⟩)
abbrev sub_c : Ctr Tryz.prog := FI.c sub_k
end Go.Proofs.YtcjgaaibflcdiaaGreat.Sx

namespace Go.Proofs.YtcjgaaibflcdiaaGreat.Sx
open Go Go.Proofs
set_option linter.unusedVariables false
set_option linter.unusedSimpArgs false
set_option maxRecDepth 20000
set_option maxHeartbeats 4000000
abbrev small_i : FI := ⟨197, [.mag, (.nat .u32)], [(.n 1099511627776), (.n 4294967295)], fun z => (fun (x : Nat) (u : Nat) => [0 < u]) z.1 z.2, fun b z => (fun (x : Nat) (u : Nat) => .tup [.one (.dt .mag (b0 b) (x / u)), .one (.dt (.nat .u32) (b1 b) (x % u))]) z.1 z.2⟩
theorem small_k : small_i.OK Tryz.prog := mkF hmix 43 Tryz.func197 rfl rfl (by decide) [] (fun _ => rfl) (fun _ => rfl) (fun _ _ => rfl) (fun (x : Nat) (u : Nat) b hx hp => tup_cons (one_ok ((Bnds.h2 hx).1.magLe (Nat.div_le_self _ _)) rfl) (tup_cons (one_ok ((Bnds.h2 hx).2.natLe (Nat.le_of_lt (Nat.mod_lt _ (hp _ (List.mem_cons_self))))) rfl) tup_nil)) (fun (x : Nat) (u : Nat) hx hp => by
 have hx0 : lt2 x 1099511627776 := hx.1
 have hl0 : (limbs x).length ≤ 34359738369 := limbs_len_le (Nat.le_of_lt hx0)
 have hx1 : u ≤ 4294967295 := hx.2
 have hp0 : 0 < u := hp _ (List.mem_cons_self)
 exact ⟨.h 1 2 (.mk (.arr (.nat .u32) (.n 4294967295))) (.loop [.s 8 (.int .i64) (.n 34359738370), .s 7 (.nat .u64) (.n 4294967295), .a 11 (.nat .u32) (.n 4294967295)] (fun ((z, r, out) : Int × Nat × List Nat) => SmallZ x u z r out) (fun ((z, r, out) : Int × Nat × List Nat) => (z + 1).toNat) (fun ((z, r, out) : Int × Nat × List Nat) => .cond (.h 6 4 (.ix z.toNat) (.h 6 7 (.i (.n ((r * 2 ^ 32) + ((limbs x).getD z.toNat 0)) 18446744073709551615)) (.h 7 7 (.ix z.toNat) (.nil)))) (.pre 9 (.frz 11 true [6, 7]) (.h 9 1 (.c trim_c) (.nil))))), kcast (by kernel_rfl) (I (by omega : (limbs x).length = (limbs x).length) (I (SmallZ.start hp0 : SmallZ x u ((((limbs x).length : Nat) : Int) - 1) 0 (List.replicate ((limbs x).length) (0 : Nat))) (fun (z : Int) (r : Nat) (out : List Nat) (hb1 : HB [.s 8 (.int .i64) (.n 34359738370), .s 7 (.nat .u64) (.n 4294967295), .a 11 (.nat .u32) (.n 4294967295)] (z, r, out)) (hI : SmallZ x u z r out) => have hv4 := (show Int.natAbs z ≤ 34359738370 from hb1.1); have hv5 := (show r ≤ 4294967295 from hb1.2.1); have hv6 := (show ∀ u ∈ out, u ≤ 4294967295 from hb1.2.2); have hB := hI.b; And.intro (fun (h2 : 0 ≤ z) => I (by omega : z = ((z.toNat : Nat) : Int)) (I (by omega : z.toNat < (limbs x).length) (I (bi_or _ 32 rfl (limbs_getD_lt _ _) (by have := limbs_getD_lt x z.toNat; omega) : BinIs .or .u64 ((r * 2 ^ 32 : Nat) : Int) (((limbs x).getD z.toNat 0 : Nat) : Int) (((r * 2 ^ 32) + ((limbs x).getD z.toNat 0) : Nat) : Int)) (I (by have := limbs_getD_lt x z.toNat; omega : (r * 2 ^ 32) + ((limbs x).getD z.toNat 0) ≤ 18446744073709551615) (I (by omega : 0 < u) (I (by omega : z = ((z.toNat : Nat) : Int)) (I (by omega : z.toNat < (limbs x).length) (I (by omega : z.toNat < out.length) (I (by omega : 0 < u) (I (show Int.natAbs (z - 1) ≤ 34359738370 by omega : Bnd (.int .i64) (.n 34359738370) (z - 1)) (And.intro (hI.step (by omega) rfl : SmallZ x u (z - 1) (((r * 2 ^ 32) + ((limbs x).getD z.toNat 0)) % u) (out.set z.toNat ((((r * 2 ^ 32) + ((limbs x).getD z.toNat 0)) / u) % 4294967296))) (by omega : ((z - 1) + 1).toNat < (z + 1).toNat)))))))))))) (fun (h3 : ¬ (0 ≤ z)) => I (by omega : (limbs x).length = out.length) (have hF := hI.fin (by omega); I (hF.2.2 : ∀ u ∈ out, u < 4294967296) (And.intro (hF.1 : valL out = x / u) (hF.2.1 : r = x % u)))))))⟩)
abbrev small_c : Ctr Tryz.prog := FI.c small_k
abbrev nword_i : FI := ⟨196, [.mag], [(.n 1099511627776)], fun z => (fun (x : Nat) => [(limbs x).length ≤ 2]) z, fun b z => (fun (x : Nat) => .c (.one (.dt (.nat .u64) (.n 18446744073709551615) x))) z⟩
theorem nword_k : nword_i.OK Tryz.prog := mkF hmix 21 Tryz.func196 rfl rfl (by decide) [] (fun _ => rfl) (fun _ => rfl) (fun _ _ => rfl) (fun (x : Nat) b hx hp => one_ok (Nat.le_of_lt_succ (nl_le2 (hp _ (List.mem_cons_self)))) rfl) (fun (x : Nat) hx hp => by
 have hx0 : lt2 x 1099511627776 := hx
 have hl0 : (limbs x).length ≤ 34359738369 := limbs_len_le (Nat.le_of_lt hx0)
 have hp0 : (limbs x).length ≤ 2 := hp _ (List.mem_cons_self)
 exact ⟨.loop [.s 4 (.int .i64) (.n 68719476736), .s 3 (.nat .u64) (.n 18446744073709551615)] (fun ((z, v) : Int × Nat) => WordZ x z v) (fun ((z, v) : Int × Nat) => (z + 1).toNat) (fun ((z, v) : Int × Nat) => .cond (.h 5 1 (.i (.n (v * 2 ^ 32) 18446744073709551615)) (.h 5 4 (.ix z.toNat) (.h 5 7 (.i (.n ((v * 2 ^ 32) + ((limbs x).getD z.toNat 0)) 18446744073709551615)) (.nil)))) (.nil)), kcast (by kernel_rfl) (I (WordZ.start x : WordZ x ((((limbs x).length : Nat) : Int) - 1) 0) (fun (z : Int) (v : Nat) (hb1 : HB [.s 4 (.int .i64) (.n 68719476736), .s 3 (.nat .u64) (.n 18446744073709551615)] (z, v)) (hI : WordZ x z v) => have hv4 := (show Int.natAbs z ≤ 68719476736 from hb1.1); have hv5 := (show v ≤ 18446744073709551615 from hb1.2); have hB0 := hI.h0; have hB1 := hI.h1; And.intro (fun (h2 : 0 ≤ z) => have hw := hI.lt hp0 (by omega); I (bi_shl v 32 (by omega) (by omega) : BinIs .shl .u64 (v : Int) 32 ((v * 2 ^ 32 : Nat) : Int)) (I (by omega : v * 2 ^ 32 ≤ 18446744073709551615) (I (by omega : z = ((z.toNat : Nat) : Int)) (I (by omega : z.toNat < (limbs x).length) (I (bi_or _ 32 rfl (limbs_getD_lt _ _) (by have := limbs_getD_lt x z.toNat; omega) : BinIs .or .u64 ((v * 2 ^ 32 : Nat) : Int) (((limbs x).getD z.toNat 0 : Nat) : Int) (((v * 2 ^ 32) + ((limbs x).getD z.toNat 0) : Nat) : Int)) (I (by have := limbs_getD_lt x z.toNat; omega : (v * 2 ^ 32) + ((limbs x).getD z.toNat 0) ≤ 18446744073709551615) (I (show Int.natAbs (z - 1) ≤ 68719476736 by omega : Bnd (.int .i64) (.n 68719476736) (z - 1)) (And.intro (hI.step (by omega) : WordZ x (z - 1) ((v * 2 ^ 32) + ((limbs x).getD z.toNat 0))) (by omega : ((z - 1) + 1).toNat < (z + 1).toNat))))))))) (fun (h3 : ¬ (0 ≤ z)) => (hI.fin (by omega) : v = x))))⟩)
abbrev nword_c : Ctr Tryz.prog := FI.c nword_k
abbrev rword_i : FI := ⟨154, [.mag], [(.n 1099511627776)], fun z => (fun (x : Nat) => [(limbs x).length ≤ 2]) z, fun b z => (fun (x : Nat) => .c (.one (.dt (.nat .u64) (.n 18446744073709551615) x))) z⟩
theorem rword_k : rword_i.OK Tryz.prog := mkF hmix 21 Tryz.func154 rfl rfl (by decide) [] (fun _ => rfl) (fun _ => rfl) (fun _ _ => rfl) (fun (x : Nat) b hx hp => one_ok (Nat.le_of_lt_succ (nl_le2 (hp _ (List.mem_cons_self)))) rfl) (fun (x : Nat) hx hp => by
 have hx0 : lt2 x 1099511627776 := hx
 have hl0 : (limbs x).length ≤ 34359738369 := limbs_len_le (Nat.le_of_lt hx0)
 have hp0 : (limbs x).length ≤ 2 := hp _ (List.mem_cons_self)
 exact ⟨.loop [.s 4 (.int .i64) (.n 68719476736), .s 3 (.nat .u64) (.n 18446744073709551615)] (fun ((z, v) : Int × Nat) => WordZ x z v) (fun ((z, v) : Int × Nat) => (z + 1).toNat) (fun ((z, v) : Int × Nat) => .cond (.h 5 1 (.i (.n (v * 2 ^ 32) 18446744073709551615)) (.h 5 4 (.ix z.toNat) (.h 5 7 (.i (.n ((v * 2 ^ 32) + ((limbs x).getD z.toNat 0)) 18446744073709551615)) (.nil)))) (.nil)), kcast (by kernel_rfl) (I (WordZ.start x : WordZ x ((((limbs x).length : Nat) : Int) - 1) 0) (fun (z : Int) (v : Nat) (hb1 : HB [.s 4 (.int .i64) (.n 68719476736), .s 3 (.nat .u64) (.n 18446744073709551615)] (z, v)) (hI : WordZ x z v) => have hv4 := (show Int.natAbs z ≤ 68719476736 from hb1.1); have hv5 := (show v ≤ 18446744073709551615 from hb1.2); have hB0 := hI.h0; have hB1 := hI.h1; And.intro (fun (h2 : 0 ≤ z) => have hw := hI.lt hp0 (by omega); I (bi_shl v 32 (by omega) (by omega) : BinIs .shl .u64 (v : Int) 32 ((v * 2 ^ 32 : Nat) : Int)) (I (by omega : v * 2 ^ 32 ≤ 18446744073709551615) (I (by omega : z = ((z.toNat : Nat) : Int)) (I (by omega : z.toNat < (limbs x).length) (I (bi_or _ 32 rfl (limbs_getD_lt _ _) (by have := limbs_getD_lt x z.toNat; omega) : BinIs .or .u64 ((v * 2 ^ 32 : Nat) : Int) (((limbs x).getD z.toNat 0 : Nat) : Int) (((v * 2 ^ 32) + ((limbs x).getD z.toNat 0) : Nat) : Int)) (I (by have := limbs_getD_lt x z.toNat; omega : (v * 2 ^ 32) + ((limbs x).getD z.toNat 0) ≤ 18446744073709551615) (I (show Int.natAbs (z - 1) ≤ 68719476736 by omega : Bnd (.int .i64) (.n 68719476736) (z - 1)) (And.intro (hI.step (by omega) : WordZ x (z - 1) ((v * 2 ^ 32) + ((limbs x).getD z.toNat 0))) (by omega : ((z - 1) + 1).toNat < (z + 1).toNat))))))))) (fun (h3 : ¬ (0 ≤ z)) => (hI.fin (by omega) : v = x))))⟩)
abbrev rword_c : Ctr Tryz.prog := FI.c rword_k
abbrev raise_i : FO := ⟨199, [.mag, (.nat .i64)], [(.n 1099511627776), (.n 32)], fun _ => [], fun k b z => (fun (x : Nat) (s : Nat) => .c (.one (.gs k ((limbs x).length + 1) 1 ((b0 b).nb / 32 + 2)))) z.1 z.2, fun b z => (fun (x : Nat) (s : Nat) => .gro (.nat .u32) (.n 4294967295) (padL (x * 2 ^ s) ((limbs x).length + 1))) z.1 z.2⟩
theorem raise_k : raise_i.OK Tryz.prog := mkO hmix 41 12 Tryz.func199 rfl rfl (by decide) [] (fun _ => rfl) (fun _ _ _ => rfl) (fun _ _ => rfl) (fun _ _ _ => ⟨rfl, rfl⟩) (fun (x : Nat) (s : Nat) k b hx hp => ⟨one_ok (Nat.succ_le_succ (limbs_b (Bnds.h2 hx).1)) rfl, padL_bnd _ _⟩) (fun (x : Nat) (s : Nat) hx hp => by
 have hx0 : lt2 x 1099511627776 := hx.1
 have hl0 : (limbs x).length ≤ 34359738369 := limbs_len_le (Nat.le_of_lt hx0)
 have hx1 : s ≤ 32 := hx.2
 exact bodyO.g (.h 1 3 (.mk (.gro (.nat .u32) (.n 4294967295))) (.loop [.s 15 (.nat .i64) (.n 34359738369), .s 6 (.nat .u64) (.n 4294967295), .bk 12 (.nat .u32) (.n 4294967295)] (fun ((i, c, out) : Nat × Nat × List Nat) => RaiseI x s i c out) (fun ((i, c, out) : Nat × Nat × List Nat) => (limbs x).length - i) (fun ((i, c, out) : Nat × Nat × List Nat) => .cond (.h 6 4 (.i (.n (((limbs x).getD i 0) * 2 ^ s) 18446744073709551615)) (.h 6 5 (.i (.n (c + (((limbs x).getD i 0) * 2 ^ s)) 18446744073709551615)) (.nil))) (.nil)))) (kcast (by kernel_rfl) (I (by omega : ((limbs x).length) + 1 = ((limbs x).length) + 1) (I (RaiseI.start x s : RaiseI x s 0 0 (List.replicate (((limbs x).length) + 1) (0 : Nat))) (fun (i : Nat) (c : Nat) (out : List Nat) (hb1 : HB [.s 15 (.nat .i64) (.n 34359738369), .s 6 (.nat .u64) (.n 4294967295), .bk 12 (.nat .u32) (.n 4294967295)] (i, c, out)) (hI : RaiseI x s i c out) => have hv4 := (show i ≤ 34359738369 from hb1.1); have hv5 := (show c ≤ 4294967295 from hb1.2.1); have hv6 := (show ∀ u ∈ out, u ≤ 4294967295 from hb1.2.2); have hIl := hI.hl; have hIi := hI.hi; have hIc := hI.hc; have hg1 := limbs_getD_lt x i; have hbd := or_bound2 hg1 hx1 hIc; And.intro (fun (h2 : i < (limbs x).length) => I (by omega : i < (limbs x).length) (I (bi_shl _ _ (by omega) (shl_bound (by omega) (by omega)) : BinIs .shl .u64 (((limbs x).getD i 0 : Nat) : Int) (s : Int) ((((limbs x).getD i 0) * 2 ^ s : Nat) : Int)) (I (Nat.le_of_lt_succ (shl_bound (by omega) (by omega)) : ((limbs x).getD i 0) * 2 ^ s ≤ 18446744073709551615) (I (bi_or' _ _ rfl hIc hbd : BinIs .or .u64 (c : Int) ((((limbs x).getD i 0) * 2 ^ s : Nat) : Int) ((c + (((limbs x).getD i 0) * 2 ^ s) : Nat) : Int)) (I (Nat.le_of_lt_succ hbd : c + (((limbs x).getD i 0) * 2 ^ s) ≤ 18446744073709551615) (I (by omega : i < ((limbs x).length) + 1) (I (by omega : i < out.length) (I (show (i + 1) ≤ 34359738369 by omega : Bnd (.nat .i64) (.n 34359738369) (i + 1)) (And.intro (hI.step (by omega) rfl : RaiseI x s (i + 1) ((c + (((limbs x).getD i 0) * 2 ^ s)) / 2 ^ 32) (out.set i ((c + (((limbs x).getD i 0) * 2 ^ s)) % 4294967296))) (by omega : (limbs x).length - (i + 1) < (limbs x).length - i)))))))))) (fun (h3 : ¬ (i < (limbs x).length)) => I (by omega : (limbs x).length < ((limbs x).length) + 1) (I (by omega : (limbs x).length < out.length) (And.intro (hI.fin' (by omega) (by omega) : out.set ((limbs x).length) c = padL (x * 2 ^ s) ((limbs x).length + 1)) ((by omega : ((limbs x).length) + 1 = (limbs x).length + 1))))))))))
abbrev raise_c : CtrO Tryz.prog := FO.c raise_k
abbrev raise_R (k : Nat) (b : List Bd) (x : Nat) (s : Nat) : WV := .c (.one (.gs k ((limbs x).length + 1) 1 ((b0 b).nb / 32 + 2)))
abbrev raise_B (b : List Bd) (x : Nat) (s : Nat) : WB := .gro (.nat .u32) (.n 4294967295) (padL (x * 2 ^ s) ((limbs x).length + 1))
theorem raise_sig (d : Nat) (x : Nat) (s : Nat) (hx : Bnds [.mag, (.nat .i64)] [(.n 1099511627776), (.n 32)] (x, s)) (hp : ∀ c0 ∈ ([] : List Prop), c0) : SigG Tryz.prog 199 (argsE [.mag, (.nat .i64)] (x, s)) [] (raise_R d [(.n 1099511627776), (.n 32)] x s).exp [(d, some (raise_B [(.n 1099511627776), (.n 32)] x s).exp)] := raise_k.sig d (x, s) hx hp
abbrev raiseD_R (b : List Bd) (x s : Nat) : WV := .c (.one (.dt (.sl (.nat .u32)) (.s ((b0 b).nb / 32 + 2) (.n 4294967295)) (padL (x * 2 ^ s) ((limbs x).length + 1))))
theorem raiseD_ok (b : List Bd) (x s : Nat) (hx : Bnds [.mag, .nat .i64] b (x, s)) (hp : ∀ p ∈ ([] : List Prop), p) : (raiseD_R b x s).ok := one_ok ⟨by rw [padL_length]; exact Nat.succ_le_succ (limbs_b (Bnds.h2 hx).1), padL_bnd _ _⟩ rfl
def raiseD_c : Ctr Tryz.prog := ⟨199, [.mag, .nat .i64], [.n 1099511627776, .n 32], fun z => [], fun b z => raiseD_R b z.1 z.2, fun z hx hp => frzO (raise_sig 0 z.1 z.2 hx hp) (by decide) (padL_length _ _).symm _, fun _ _ => rfl, fun b z hx hp => raiseD_ok b z.1 z.2 hx hp⟩
abbrev of_i : FI := ⟨159, [(.nat .u64)], [(.n 18446744073709551615)], fun _ => [], fun b z => (fun (x : Nat) => .c (.one (.dt .mag (.n (Nat.log2 (b0 b).nb + 1)) (x)))) z⟩
theorem of_k : of_i.OK Tryz.prog := mkF hmix 10 Tryz.func159 rfl rfl (by decide) [] (fun _ => rfl) (fun _ => rfl) (fun _ _ => rfl) (fun (x : Nat) b hx hp => one_ok (Nat.lt_of_le_of_lt (Bnds.h1 hx).nat Nat.lt_log2_self) rfl) (fun (x : Nat) hx hp => by
 have hx0 : x ≤ 18446744073709551615 := hx
 exact ⟨.h 1 5 (.mk (.im (.nat .u32) (.n 4294967295))) (.h 1 6 (.c trim_c) (.nil)), kcast (by kernel_rfl) (I (by intro u hu; simp only [List.mem_cons, List.not_mem_nil, or_false] at hu; omega : ∀ u ∈ [x % 4294967296, x / 2 ^ 32], u < 4294967296) ((by simp only [valL]; omega : valL [x % 4294967296, x / 2 ^ 32] = x)))⟩)
abbrev of_c : Ctr Tryz.prog := FI.c of_k
end Go.Proofs.YtcjgaaibflcdiaaGreat.Sx

namespace Go.Proofs.YtcjgaaibflcdiaaGreat.Sx
open Go Go.Proofs
set_option linter.unusedVariables false
set_option linter.unusedSimpArgs false
set_option maxRecDepth 20000
set_option maxHeartbeats 4000000
def tab8 : ByteArray := ⟨#[0, 1, 2, 2, 3, 3, 3, 3, 4, 4, 4, 4, 4, 4, 4, 4, 5, 5, 5, 5, 5, 5, 5, 5, 5, 5, 5, 5, 5, 5, 5, 5, 6, 6, 6, 6, 6, 6, 6, 6, 6, 6, 6, 6, 6, 6, 6, 6, 6, 6, 6, 6, 6, 6, 6, 6, 6, 6, 6, 6, 6, 6, 6, 6, 7, 7, 7, 7, 7, 7, 7, 7, 7, 7, 7, 7, 7, 7, 7, 7, 7, 7, 7, 7, 7, 7, 7, 7, 7, 7, 7, 7, 7, 7, 7, 7, 7, 7, 7, 7, 7, 7, 7, 7, 7, 7, 7, 7, 7, 7, 7, 7, 7, 7, 7, 7, 7, 7, 7, 7, 7, 7, 7, 7, 7, 7, 7, 7, 8, 8, 8, 8, 8, 8, 8, 8, 8, 8, 8, 8, 8, 8, 8, 8, 8, 8, 8, 8, 8, 8, 8, 8, 8, 8, 8, 8, 8, 8, 8, 8, 8, 8, 8, 8, 8, 8, 8, 8, 8, 8, 8, 8, 8, 8, 8, 8, 8, 8, 8, 8, 8, 8, 8, 8, 8, 8, 8, 8, 8, 8, 8, 8, 8, 8, 8, 8, 8, 8, 8, 8, 8, 8, 8, 8, 8, 8, 8, 8, 8, 8, 8, 8, 8, 8, 8, 8, 8, 8, 8, 8, 8, 8, 8, 8, 8, 8, 8, 8, 8, 8, 8, 8, 8, 8, 8, 8, 8, 8, 8, 8, 8, 8, 8, 8, 8, 8, 8, 8, 8, 8, 8, 8, 8, 8, 8, 8]⟩
abbrev clone_i : FO := ⟨163, [(.sl (.nat .u32))], [(.s 1099511627776 (.n 4294967295))], fun _ => [], fun k b z => (fun (ls : List Nat) => .c (.one (.gs k (ls.length) 1 ((b0 b).len)))) z, fun b z => (fun (ls : List Nat) => .gro (.nat .u32) ((b0 b).e) (ls)) z⟩
theorem clone_k : clone_i.OK Tryz.prog := mkO hmix 8 7 Tryz.func163 rfl rfl (by decide) [] (fun _ => rfl) (fun _ _ _ => rfl) (fun _ _ => rfl) (fun _ _ _ => ⟨rfl, rfl⟩) (fun (ls : List Nat) k b hx hp => ⟨one_ok (Bnds.h1 hx).sl.1 rfl, (Bnds.h1 hx).sl.2⟩) (fun (ls : List Nat) hx hp => by
 have hl0 : ls.length ≤ 1099511627776 := hx.1
 exact bodyO.g (.cond (.nil) (.h 3 0 (.mk (.gro (.nat .u32) (.n 4294967295))) (.nil))) (kcast (by kernel_rfl) (And.intro (fun (h1 : ls = []) => And.intro (h1.symm : ([] : List Nat) = ls) ((by rw [h1]; rfl : 0 = ls.length))) (I (rfl : 0 = ([] : List Nat).length) (And.intro (rfl : ([] : List Nat) ++ ls = ls) ((by omega : 0 + ls.length = ls.length)))))))
abbrev clone_c : CtrO Tryz.prog := FO.c clone_k
abbrev clone_R (k : Nat) (b : List Bd) (ls : List Nat) : WV := .c (.one (.gs k (ls.length) 1 ((b0 b).len)))
abbrev clone_B (b : List Bd) (ls : List Nat) : WB := .gro (.nat .u32) ((b0 b).e) (ls)
theorem clone_sig (d : Nat) (ls : List Nat) (hx : Bnds [(.sl (.nat .u32))] [(.s 1099511627776 (.n 4294967295))] ls) (hp : ∀ c0 ∈ ([] : List Prop), c0) : SigG Tryz.prog 163 (argsE [(.sl (.nat .u32))] ls) [] (clone_R d [(.s 1099511627776 (.n 4294967295))] ls).exp [(d, some (clone_B [(.s 1099511627776 (.n 4294967295))] ls).exp)] := clone_k.sig d ls hx hp
def cloneD_c : Ctr Tryz.prog := ⟨163, [.sl (.nat .u32)], [.s 1099511627776 (.n 4294967295)], fun z => [], fun b z => .c (.one (.dt (.sl (.nat .u32)) (b0 b) z)), fun z hx hp => frzO (clone_sig 0 z hx hp) (by decide) rfl _, fun _ _ => rfl, fun b z hx hp => one_ok (Bnds.h1 hx) rfl⟩
theorem cloneM_sig (x : Nat) (hx : Bnds [.mag] [.n 1099511627776] x) : Sig Tryz.prog 163 (argsE [.mag] x) (WV.c (.one (.dt .mag (.n 1099511627776) x))).exp := by
  have h := cloneD_c.sig (limbs x) ⟨Nat.le_trans (limbs_len_le (Nat.le_of_lt hx)) (by decide), (Bnd.limbs hx).2⟩ (by intro p hp; cases hp)
  have e : (cloneD_c.res cloneD_c.bs (limbs x)).exp = (WV.c (.one (.dt .mag (.n 1099511627776) x))).exp := magE x _ _
  rw [e] at h
  rw [argsE_mag]; exact h
def cloneM_c : Ctr Tryz.prog := ⟨163, [.mag], [.n 1099511627776], fun z => [], fun b z => .c (.one (.dt .mag (b0 b) z)), fun z hx hp => cloneM_sig z hx, fun _ _ => rfl, fun b z hx hp => one_ok (Bnds.h1 hx) rfl⟩
abbrev trimS_i : FV := ⟨152, true, (.nat .u32), (.n 4294967295), 1099511627776, [], [], fun l lo n cap z => [n = l.length], fun k b l lo n cap z => .c (.one (.gs k (limbs (valL l)).length 1 1099511627776)), fun l lo n cap z => l⟩
theorem trimS_k : trimS_i.OK Tryz.prog := mkSl hmix 21 Tryz.func152 rfl rfl (by decide) [] (fun _ => rfl) (fun _ _ _ _ _ => rfl) (fun _ _ _ _ _ _ _ => rfl) (fun _ _ _ _ _ _ => rfl) (fun (l : List Nat) (lo n cap : Nat)  k b hx hs hn (hm : n ≤ 1099511627776) hp => ⟨one_ok (Nat.le_trans (nl_valL (u32_lt' hs)) (by have := hp _ (List.mem_cons_self); omega)) rfl, hs⟩) (fun (l : List Nat) (lo n cap : Nat)  hs hx hn (hm : n ≤ 1099511627776) hp => by
 have hp0 : n = l.length := hp _ (List.mem_cons_self)
 have hU := u32_lt' hs
 exact ⟨.loop [.s 3 (.nat .i64) (.n 1099511627776)] (fun (k : Nat) => k ≤ l.length ∧ valL (l.take k) = valL l) (fun (k : Nat) => k) (fun (k : Nat) => .cond (.h 2 5 (.i .sub) (.cond (.h 3 1 (.i .sub) (.nil)) (.nil))) (.nil)), kcast (by kernel_rfl) (I (⟨by omega, by rw [hp0, List.take_length]⟩ : n ≤ l.length ∧ valL (l.take n) = valL l) (fun (k : Nat) (hb1 : HB [.s 3 (.nat .i64) (.n 1099511627776)] k) (hC : k ≤ l.length ∧ valL (l.take k) = valL l) => have hv6 := (show k ≤ 1099511627776 from hb1); have hk := hC.1; And.intro (fun (h2 : 0 < k) => I (by omega : 1 ≤ k) (I (by omega : k - 1 < n) (I (by omega : k - 1 < l.length) (And.intro (fun (h3 : l.getD (k - 1) 0 = 0) => I (by omega : 1 ≤ k) (And.intro (⟨by omega, trim_step hC.1 (by omega) hC.2 (by omega)⟩ : k - 1 ≤ l.length ∧ valL (l.take (k - 1)) = valL l) (by omega : k - 1 < k))) (fun (h4 : ¬ (l.getD (k - 1) 0 = 0)) => I (by omega : k ≤ n) (I (by omega : n ≤ l.length) (And.intro (Eq.refl l) ((by rw [← trim_end hU hC.1 hC.2 (by omega), List.length_take, Nat.min_eq_left hC.1] : k = (limbs (valL l)).length))))))))) (fun (h5 : ¬ (0 < k)) => I (by omega : k ≤ n) (I (by omega : n ≤ l.length) (And.intro (Eq.refl l) ((by rw [← trim_end hU hC.1 hC.2 (by omega), List.length_take, Nat.min_eq_left hC.1] : k = (limbs (valL l)).length)))))))⟩)
abbrev trimS_c : CtrS Tryz.prog := FV.c trimS_k
theorem bl_8 {x : Nat} (h : x < 256) : bl x ≤ 8 := by
  have h1 := bl_lt x
  rcases Nat.eq_zero_or_pos x with e | e
  · subst e; decide
  · have h2 := bl_le (n := x) (by omega)
    apply Nat.le_of_lt_succ
    apply Nat.lt_of_not_le
    intro h3
    have := Nat.pow_le_pow_right (show 0 < 2 by omega) (show 8 ≤ bl x - 1 by omega)
    omega
abbrev len32_i : FI := ⟨153, [(.nat .u32)], [(.n 4294967295)], fun _ => [], fun b z => (fun (x : Nat) => .c (.one (.dt (.nat .i64) (.n (Nat.log2 (b0 b).nb + 1)) (bl x)))) z⟩
theorem len32_k : len32_i.OK Tryz.prog := mkF hmix 19 Tryz.func153 rfl rfl (by decide) [] (fun _ => rfl) (fun _ => rfl) (fun _ _ => rfl) (fun (x : Nat) b hx hp => one_ok (bl_log (Bnds.h1 hx).nat) rfl) (fun (x : Nat) hx hp => by
 have hx0 : x ≤ 4294967295 := hx
 have h1 : 65536 ≤ x → bl x = bl (x / 2 ^ 16) + 16 := fun h => bl_shift (k := 16) h
 have h2 : 256 ≤ x / 2 ^ 16 → bl (x / 2 ^ 16) = bl (x / 2 ^ 16 / 2 ^ 8) + 8 := fun h => bl_shift (k := 8) h
 have h3 : 256 ≤ x → bl x = bl (x / 2 ^ 8) + 8 := fun h => bl_shift (k := 8) h
 exact ⟨.cond (.cond (.h 7 2 (.i (.n (((x / 2 ^ 16) / 2 ^ 8) % 256) 255)) (.h 7 3 (.any [.c (.one (.vl (.string tab8))), .c (.one (.dt (.nat .u8) (.n 255) (((x / 2 ^ 16) / 2 ^ 8) % 256)))] (.c (.one (.dt (.nat .u8) (.n 8) (bl (((x / 2 ^ 16) / 2 ^ 8) % 256))))) (one_ok (bl_8 (Nat.mod_lt _ (by decide))) rfl) (Op.index 9 (.const (.string tab8)) (.tmp 15)) (fun _ => gIdxTab (j := (((x / 2 ^ 16) / 2 ^ 8) % 256)) (by kernel_rfl) rfl (Nat.mod_lt _ (by decide)) (by kernel_rfl))) (.nil))) (.h 7 2 (.i (.n ((x / 2 ^ 16) % 256) 255)) (.h 7 3 (.any [.c (.one (.vl (.string tab8))), .c (.one (.dt (.nat .u8) (.n 255) ((x / 2 ^ 16) % 256)))] (.c (.one (.dt (.nat .u8) (.n 8) (bl ((x / 2 ^ 16) % 256))))) (one_ok (bl_8 (Nat.mod_lt _ (by decide))) rfl) (Op.index 9 (.const (.string tab8)) (.tmp 15)) (fun _ => gIdxTab (j := ((x / 2 ^ 16) % 256)) (by kernel_rfl) rfl (Nat.mod_lt _ (by decide)) (by kernel_rfl))) (.nil)))) (.cond (.h 7 2 (.i (.n ((x / 2 ^ 8) % 256) 255)) (.h 7 3 (.any [.c (.one (.vl (.string tab8))), .c (.one (.dt (.nat .u8) (.n 255) ((x / 2 ^ 8) % 256)))] (.c (.one (.dt (.nat .u8) (.n 8) (bl ((x / 2 ^ 8) % 256))))) (one_ok (bl_8 (Nat.mod_lt _ (by decide))) rfl) (Op.index 9 (.const (.string tab8)) (.tmp 15)) (fun _ => gIdxTab (j := ((x / 2 ^ 8) % 256)) (by kernel_rfl) rfl (Nat.mod_lt _ (by decide)) (by kernel_rfl))) (.nil))) (.h 7 2 (.i (.n (x % 256) 255)) (.h 7 3 (.any [.c (.one (.vl (.string tab8))), .c (.one (.dt (.nat .u8) (.n 255) (x % 256)))] (.c (.one (.dt (.nat .u8) (.n 8) (bl (x % 256))))) (one_ok (bl_8 (Nat.mod_lt _ (by decide))) rfl) (Op.index 9 (.const (.string tab8)) (.tmp 15)) (fun _ => gIdxTab (j := (x % 256)) (by kernel_rfl) rfl (Nat.mod_lt _ (by decide)) (by kernel_rfl))) (.nil)))), kcast (by kernel_rfl) (And.intro (fun (h1 : 65536 ≤ x) => And.intro (fun (h2 : 256 ≤ x / 2 ^ 16) => I (low_u8 _ : IntKind.wrap .u8 (((x / 2 ^ 16) / 2 ^ 8 : Nat) : Int) = ((((x / 2 ^ 16) / 2 ^ 8) % 256 : Nat) : Int)) (I (by omega : ((x / 2 ^ 16) / 2 ^ 8) % 256 ≤ 255) (I (rfl : ([.c (.one (.vl (.string tab8))), .c (.one (.dt (.nat .u8) (.n 255) (((x / 2 ^ 16) / 2 ^ 8) % 256)))] : List WV) = [.c (.one (.vl (.string tab8))), .c (.one (.dt (.nat .u8) (.n 255) (((x / 2 ^ 16) / 2 ^ 8) % 256)))]) (I (rfl : (Op.index 9 (.const (.string tab8)) (.tmp 15) : Op) = Op.index 9 (.const (.string tab8)) (.tmp 15)) ((by rw [Nat.mod_eq_of_lt (show ((x / 2 ^ 16) / 2 ^ 8) < 256 by omega)]; omega : 24 + (bl (((x / 2 ^ 16) / 2 ^ 8) % 256)) = bl x)))))) (fun (h3 : ¬ (256 ≤ x / 2 ^ 16)) => I (low_u8 _ : IntKind.wrap .u8 ((x / 2 ^ 16 : Nat) : Int) = (((x / 2 ^ 16) % 256 : Nat) : Int)) (I (by omega : (x / 2 ^ 16) % 256 ≤ 255) (I (rfl : ([.c (.one (.vl (.string tab8))), .c (.one (.dt (.nat .u8) (.n 255) ((x / 2 ^ 16) % 256)))] : List WV) = [.c (.one (.vl (.string tab8))), .c (.one (.dt (.nat .u8) (.n 255) ((x / 2 ^ 16) % 256)))]) (I (rfl : (Op.index 9 (.const (.string tab8)) (.tmp 15) : Op) = Op.index 9 (.const (.string tab8)) (.tmp 15)) ((by rw [Nat.mod_eq_of_lt (show (x / 2 ^ 16) < 256 by omega)]; omega : 16 + (bl ((x / 2 ^ 16) % 256)) = bl x))))))) (fun (h4 : ¬ (65536 ≤ x)) => And.intro (fun (h5 : 256 ≤ x) => I (low_u8 _ : IntKind.wrap .u8 ((x / 2 ^ 8 : Nat) : Int) = (((x / 2 ^ 8) % 256 : Nat) : Int)) (I (by omega : (x / 2 ^ 8) % 256 ≤ 255) (I (rfl : ([.c (.one (.vl (.string tab8))), .c (.one (.dt (.nat .u8) (.n 255) ((x / 2 ^ 8) % 256)))] : List WV) = [.c (.one (.vl (.string tab8))), .c (.one (.dt (.nat .u8) (.n 255) ((x / 2 ^ 8) % 256)))]) (I (rfl : (Op.index 9 (.const (.string tab8)) (.tmp 15) : Op) = Op.index 9 (.const (.string tab8)) (.tmp 15)) ((by rw [Nat.mod_eq_of_lt (show (x / 2 ^ 8) < 256 by omega)]; omega : 8 + (bl ((x / 2 ^ 8) % 256)) = bl x)))))) (fun (h6 : ¬ (256 ≤ x)) => I (low_u8 _ : IntKind.wrap .u8 (x : Int) = ((x % 256 : Nat) : Int)) (I (by omega : x % 256 ≤ 255) (I (rfl : ([.c (.one (.vl (.string tab8))), .c (.one (.dt (.nat .u8) (.n 255) (x % 256)))] : List WV) = [.c (.one (.vl (.string tab8))), .c (.one (.dt (.nat .u8) (.n 255) (x % 256)))]) (I (rfl : (Op.index 9 (.const (.string tab8)) (.tmp 15) : Op) = Op.index 9 (.const (.string tab8)) (.tmp 15)) ((by rw [Nat.mod_eq_of_lt (show x < 256 by omega)]; omega : 0 + (bl (x % 256)) = bl x))))))))⟩)
abbrev len32_c : Ctr Tryz.prog := FI.c len32_k
abbrev lz32_i : FI := ⟨198, [(.nat .u32)], [(.n 4294967295)], fun _ => [], fun b z => (fun (x : Nat) => .c (.one (.dt (.nat .i64) (.n 32) (32 - bl x)))) z⟩
theorem lz32_k : lz32_i.OK Tryz.prog := mkF hmix 6 Tryz.func198 rfl rfl (by decide) [(153, .c len32_c)] (fun _ => rfl) (fun _ => rfl) (fun _ _ => rfl) (fun (x : Nat) b hx hp => one_ok (Nat.sub_le _ _) rfl) (fun (x : Nat) hx hp => by
 have hx0 : x ≤ 4294967295 := hx
 have hb := @bl_32 x
 exact ⟨.h 1 2 (.i .sub) (.nil), kcast (by kernel_rfl) (I (by omega : bl x ≤ 32) ((by omega : 32 - (bl x) = 32 - bl x)))⟩)
abbrev lz32_c : Ctr Tryz.prog := FI.c lz32_k
abbrev bits_i : FI := ⟨93, [.mag], [(.n 1099511627776)], fun _ => [], fun b z => (fun (x : Nat) => .c (.one (.dt (.nat .i64) (b0 b) (bl x)))) z⟩
theorem bits_k : bits_i.OK Tryz.prog := mkF hmix 20 Tryz.func93 rfl rfl (by decide) [(152, .c trimM_c), (153, .c len32_c)] (fun _ => rfl) (fun _ => rfl) (fun _ _ => rfl) (fun (x : Nat) b hx hp => one_ok (bl_mag (Bnds.h1 hx)) rfl) (fun (x : Nat) hx hp => by
 have hx0 : lt2 x 1099511627776 := hx
 have hl0 : (limbs x).length ≤ 34359738369 := limbs_len_le (Nat.le_of_lt hx0)
 exact ⟨.cond (.nil) (.h 4 2 (.i .sub) (.h 4 7 (.i .sub) (.nil))), kcast (by kernel_rfl) (And.intro (fun (h1 : (limbs x).length = 0) => (by have := (nl0 (x := x)).1 (by omega); subst this; rfl : 0 = bl x)) (fun (h2 : ¬ ((limbs x).length = 0)) => have hpos := (show 0 < (limbs x).length by omega); have hBB := bits_bl hpos; I (by omega : 1 ≤ (limbs x).length) (I (by omega : 1 ≤ (limbs x).length) (I (by omega : ((limbs x).length) - 1 < (limbs x).length) ((by omega : (32 * (((limbs x).length) - 1)) + (bl ((limbs x).getD (((limbs x).length) - 1) 0)) = bl x))))))⟩)
abbrev bits_c : Ctr Tryz.prog := FI.c bits_k
end Go.Proofs.YtcjgaaibflcdiaaGreat.Sx

namespace Go.Proofs.YtcjgaaibflcdiaaGreat.Sx
open Go Go.Proofs
set_option linter.unusedVariables false
set_option linter.unusedSimpArgs false
set_option maxRecDepth 20000
set_option maxHeartbeats 4000000
abbrev div_i : FI := ⟨158, [.mag, .mag], [(.n 1099511627776), (.n 1099511627776)], fun z => (fun (x : Nat) (y : Nat) => [0 < y]) z.1 z.2, fun b z => (fun (x : Nat) (y : Nat) => .tup [.one (.dt .mag (b0 b) (x / y)), .one (.dt .mag (b1 b) (x % y)), .one (.kn .i64 0)]) z.1 z.2⟩
theorem div_k : div_i.OK Tryz.prog := mkF hmix 300 Tryz.func158 rfl rfl (by decide) [(152, .c trim_c), (163, .c cloneM_c), (193, .c cmp_c), (197, .c small_c), (198, .c lz32_c), (199, .c raiseD_c)] (fun _ => rfl) (fun _ => rfl) (fun _ _ => rfl) (fun (x : Nat) (y : Nat) b hx hp => tup_cons (one_ok ((Bnds.h2 hx).1.magLe (Nat.div_le_self _ _)) rfl) (tup_cons (one_ok ((Bnds.h2 hx).2.magLe (Nat.le_of_lt (Nat.mod_lt _ (hp _ (List.mem_cons_self))))) rfl) (tup_cons kn_ok tup_nil))) (fun (x : Nat) (y : Nat) hx hp => by
 have hx0 : lt2 x 1099511627776 := hx.1
 have hl0 : (limbs x).length ≤ 34359738369 := limbs_len_le (Nat.le_of_lt hx0)
 have hx1 : lt2 y 1099511627776 := hx.2
 have hl1 : (limbs y).length ≤ 34359738369 := limbs_len_le (Nat.le_of_lt hx1)
 have hp0 : 0 < y := hp _ (List.mem_cons_self)
 have hyp := mt (nl0 (x := y)).1 (show ¬ y = 0 by omega)
 exact ⟨.h 1 1 (.c trimM_c) (.h 1 3 (.c trimM_c) (.cond (.dead) (.cond (.nil) (.cond (.h 8 2 (.mk (.im (.nat .u32) (.n 4294967295))) (.nil)) (.h 9 3 (.i .sub) ((fun (s : Nat) => .h 10 2 (.o raise_c) (.h 10 6 (.mag (y * 2 ^ s) 1099511627808) ((fun (m : Nat) => .h 12 3 (.i .sub) (.h 12 4 (.mk (.arr (.nat .u32) (.n 4294967295))) (.loop [.s 13 (.int .i64) (.n 1099511627776), .bk 66 (.nat .u32) (.n 4294967295), .a 77 (.nat .u32) (.n 4294967295)] (fun ((z, out, ql) : Int × List Nat × List Nat) => DivZ x y s z out ql) (fun ((z, out, ql) : Int × List Nat × List Nat) => (z + 1).toNat) (fun ((z, out, ql) : Int × List Nat × List Nat) => .cond ((fun (j : Nat) => .h 16 4 (.ix (j + m)) (.h 16 13 (.ix (j + m - 1)) (.h 16 16 (.i (.n (((out.getD (j + m) 0) * 2 ^ 32) + (out.getD (j + m - 1) 0)) 18446744073709551615)) ((fun (t : Nat) => .h 17 3 (.i .sub) (.h 17 11 (.i .sub) (.loop [.s 15 (.nat .u64) (.n 4294967297), .s 16 (.nat .u64) (.n 4294967295)] (fun ((q, r) : Nat × Nat) => Est x y s j out q r) (fun ((q, r) : Nat × Nat) => q) (fun ((q, r) : Nat × Nat) => .cond (.h 19 1 (.i .sub) (.h 20 3 (.i .sub) (.cond (.loop [.s 156 (.nat .i64) (.n 137438953472), .s 17 (.nat .u64) (.n 1), .s 18 (.nat .u64) (.n 4294967295), .bk 66 (.nat .u32) (.n 4294967295)] (fun ((i2, b, k, ls2) : Nat × Nat × Nat × List Nat) => MsI y s j (q - 1) out i2 k b ls2) (fun ((i2, b, k, ls2) : Nat × Nat × Nat × List Nat) => (limbs (y * 2 ^ s)).length - i2) (fun ((i2, b, k, ls2) : Nat × Nat × Nat × List Nat) => .cond (.h 26 5 (.i (.n (k + ((q - 1) * ((limbs (y * 2 ^ s)).getD i2 0))) 18446744073709551615)) (.h 27 4 (.ix (i2 + j)) (.h 27 8 (.i (.n ((k + ((q - 1) * ((limbs (y * 2 ^ s)).getD i2 0))) % 4294967296) 4294967295)) (.h 27 9 (.i (.n (dif (ls2.getD (i2 + j) 0) ((k + ((q - 1) * ((limbs (y * 2 ^ s)).getD i2 0))) % 4294967296)) 18446744073709551615)) (.h 27 11 (.i (.n (dif (dif (ls2.getD (i2 + j) 0) ((k + ((q - 1) * ((limbs (y * 2 ^ s)).getD i2 0))) % 4294967296)) b) 18446744073709551615)) (.h 28 6 (.ix (i2 + j)) (.nil))))))) (.h 32 4 (.ix (j + m)) (.h 32 8 (.i (.n (dif (ls2.getD (j + m) 0) k) 18446744073709551615)) (.h 32 10 (.i (.n (dif (dif (ls2.getD (j + m) 0) k) b) 18446744073709551615)) ((fun (d : Nat) => .h 33 6 (.ix (j + m)) (.cond (.h 35 1 (.i .sub) (.loop [.s 216 (.nat .i64) (.n 137438953472), .s 18 (.nat .u64) (.n 1), .bk 66 (.nat .u32) (.n 4294967295)] (fun ((i3, c3, ls3) : Nat × Nat × List Nat) => AbI y s j (ls2.set (j + m) (d % 4294967296)) i3 c3 ls3) (fun ((i3, c3, ls3) : Nat × Nat × List Nat) => (limbs (y * 2 ^ s)).length - i3) (fun ((i3, c3, ls3) : Nat × Nat × List Nat) => .cond (.h 40 5 (.ix (i3 + j)) (.h 41 6 (.ix (i3 + j)) (.nil))) (.h 44 4 (.ix (j + m)) (.h 44 8 (.i (.n (((ls3.getD (j + m) 0) + c3) % 4294967296) 4294967295)) (.h 44 9 (.ix (j + m)) (.h 45 4 (.ix j) (.nil)))))))) (.h 45 4 (.ix j) (.nil)))) (dif (dif (ls2.getD (j + m) 0) k) b))))))) (.nil)))) (.h 18 6 (.i .sub) (.h 18 18 (.ix (j + m - 2)) (.h 18 21 (.i (.n ((r * 2 ^ 32) + (out.getD (j + m - 2) 0)) 18446744073709551615)) (.cond (.h 19 1 (.i .sub) (.h 20 3 (.i .sub) (.cond (.loop [.s 156 (.nat .i64) (.n 137438953472), .s 17 (.nat .u64) (.n 1), .s 18 (.nat .u64) (.n 4294967295), .bk 66 (.nat .u32) (.n 4294967295)] (fun ((i2, b, k, ls2) : Nat × Nat × Nat × List Nat) => MsI y s j (q - 1) out i2 k b ls2) (fun ((i2, b, k, ls2) : Nat × Nat × Nat × List Nat) => (limbs (y * 2 ^ s)).length - i2) (fun ((i2, b, k, ls2) : Nat × Nat × Nat × List Nat) => .cond (.h 26 5 (.i (.n (k + ((q - 1) * ((limbs (y * 2 ^ s)).getD i2 0))) 18446744073709551615)) (.h 27 4 (.ix (i2 + j)) (.h 27 8 (.i (.n ((k + ((q - 1) * ((limbs (y * 2 ^ s)).getD i2 0))) % 4294967296) 4294967295)) (.h 27 9 (.i (.n (dif (ls2.getD (i2 + j) 0) ((k + ((q - 1) * ((limbs (y * 2 ^ s)).getD i2 0))) % 4294967296)) 18446744073709551615)) (.h 27 11 (.i (.n (dif (dif (ls2.getD (i2 + j) 0) ((k + ((q - 1) * ((limbs (y * 2 ^ s)).getD i2 0))) % 4294967296)) b) 18446744073709551615)) (.h 28 6 (.ix (i2 + j)) (.nil))))))) (.h 32 4 (.ix (j + m)) (.h 32 8 (.i (.n (dif (ls2.getD (j + m) 0) k) 18446744073709551615)) (.h 32 10 (.i (.n (dif (dif (ls2.getD (j + m) 0) k) b) 18446744073709551615)) ((fun (d : Nat) => .h 33 6 (.ix (j + m)) (.cond (.h 35 1 (.i .sub) (.loop [.s 216 (.nat .i64) (.n 137438953472), .s 18 (.nat .u64) (.n 1), .bk 66 (.nat .u32) (.n 4294967295)] (fun ((i3, c3, ls3) : Nat × Nat × List Nat) => AbI y s j (ls2.set (j + m) (d % 4294967296)) i3 c3 ls3) (fun ((i3, c3, ls3) : Nat × Nat × List Nat) => (limbs (y * 2 ^ s)).length - i3) (fun ((i3, c3, ls3) : Nat × Nat × List Nat) => .cond (.h 40 5 (.ix (i3 + j)) (.h 41 6 (.ix (i3 + j)) (.nil))) (.h 44 4 (.ix (j + m)) (.h 44 8 (.i (.n (((ls3.getD (j + m) 0) + c3) % 4294967296) 4294967295)) (.h 44 9 (.ix (j + m)) (.h 45 4 (.ix j) (.nil)))))))) (.h 45 4 (.ix j) (.nil)))) (dif (dif (ls2.getD (j + m) 0) k) b))))))) (.nil)))) (.loop [.s 156 (.nat .i64) (.n 137438953472), .s 17 (.nat .u64) (.n 1), .s 18 (.nat .u64) (.n 4294967295), .bk 66 (.nat .u32) (.n 4294967295)] (fun ((i2, b, k, ls2) : Nat × Nat × Nat × List Nat) => MsI y s j q out i2 k b ls2) (fun ((i2, b, k, ls2) : Nat × Nat × Nat × List Nat) => (limbs (y * 2 ^ s)).length - i2) (fun ((i2, b, k, ls2) : Nat × Nat × Nat × List Nat) => .cond (.h 26 5 (.i (.n (k + (q * ((limbs (y * 2 ^ s)).getD i2 0))) 18446744073709551615)) (.h 27 4 (.ix (i2 + j)) (.h 27 8 (.i (.n ((k + (q * ((limbs (y * 2 ^ s)).getD i2 0))) % 4294967296) 4294967295)) (.h 27 9 (.i (.n (dif (ls2.getD (i2 + j) 0) ((k + (q * ((limbs (y * 2 ^ s)).getD i2 0))) % 4294967296)) 18446744073709551615)) (.h 27 11 (.i (.n (dif (dif (ls2.getD (i2 + j) 0) ((k + (q * ((limbs (y * 2 ^ s)).getD i2 0))) % 4294967296)) b) 18446744073709551615)) (.h 28 6 (.ix (i2 + j)) (.nil))))))) (.h 32 4 (.ix (j + m)) (.h 32 8 (.i (.n (dif (ls2.getD (j + m) 0) k) 18446744073709551615)) (.h 32 10 (.i (.n (dif (dif (ls2.getD (j + m) 0) k) b) 18446744073709551615)) ((fun (d : Nat) => .h 33 6 (.ix (j + m)) (.cond (.h 35 1 (.i .sub) (.loop [.s 216 (.nat .i64) (.n 137438953472), .s 18 (.nat .u64) (.n 1), .bk 66 (.nat .u32) (.n 4294967295)] (fun ((i3, c3, ls3) : Nat × Nat × List Nat) => AbI y s j (ls2.set (j + m) (d % 4294967296)) i3 c3 ls3) (fun ((i3, c3, ls3) : Nat × Nat × List Nat) => (limbs (y * 2 ^ s)).length - i3) (fun ((i3, c3, ls3) : Nat × Nat × List Nat) => .cond (.h 40 5 (.ix (i3 + j)) (.h 41 6 (.ix (i3 + j)) (.nil))) (.h 44 4 (.ix (j + m)) (.h 44 8 (.i (.n (((ls3.getD (j + m) 0) + c3) % 4294967296) 4294967295)) (.h 44 9 (.ix (j + m)) (.h 45 4 (.ix j) (.nil)))))))) (.h 45 4 (.ix j) (.nil)))) (dif (dif (ls2.getD (j + m) 0) k) b))))))))))))))) (((out.getD (j + m) 0) * 2 ^ 32) + (out.getD (j + m - 1) 0)))))) z.toNat) (.h 46 1 (.s trimS_c) (.loop [.s 262 (.nat .i64) (.n 1099511627776), .bk 66 (.nat .u32) (.n 4294967295)] (fun ((i4, ls4) : Nat × List Nat) => DownI (valL out) s ((limbs x).length + 1) i4 ls4) (fun ((i4, ls4) : Nat × List Nat) => (limbs (valL out)).length - i4) (fun ((i4, ls4) : Nat × List Nat) => .cond (.h 50 5 (.i (.n ((ls4.getD i4 0) / 2 ^ s) 4294967295)) (.cond (.cond (.h 52 10 (.i .sub) (.h 52 11 (.i (.n (((ls4.set i4 ((ls4.getD i4 0) / 2 ^ s)).getD (i4 + 1) 0) * 2 ^ (32 - s) % 4294967296) 4294967295)) (.h 52 12 (.i (.n (((ls4.set i4 ((ls4.getD i4 0) / 2 ^ s)).getD i4 0) + (((ls4.set i4 ((ls4.getD i4 0) / 2 ^ s)).getD (i4 + 1) 0) * 2 ^ (32 - s) % 4294967296)) 4294967295)) (.nil)))) (.nil)) (.nil))) (.pre 54 (.frz 77 true [4, 5, 66]) (.pre 54 (.frz 66 false [4, 5]) (.nil)))))))))) ((limbs (y * 2 ^ s)).length)))) (32 - bl ((limbs y).getD (((limbs y).length) - 1) 0)))))))), kcast (by kernel_rfl) (And.intro (fun (h1 : (limbs y).length = 0) => (absurd (nl0.1 h1) (by omega) : False)) (fun (h2 : ¬ ((limbs y).length = 0)) => And.intro (fun (h3 : cmpN x y < 0) => And.intro ((Nat.div_eq_of_lt (cmp_lt0.1 (by omega))).symm : 0 = x / y) ((Nat.mod_eq_of_lt (cmp_lt0.1 (by omega))).symm : x = x % y)) (fun (h4 : ¬ (cmpN x y < 0)) => And.intro (fun (h5 : (limbs y).length = 1) => have hyx := (show y ≤ x from by have := mt cmp_lt0.2 (show ¬ cmpN x y < 0 by omega); omega); have hl1 := (show (limbs y).length = 1 by omega); have hg0 := limbs_getD_lt y 0; have hy1 := (show (limbs y).getD 0 0 = y from by have := limbs_last (x := y) (by omega); rw [hl1] at this; simpa [valL] using this.symm); I (by omega : 0 < (limbs y).length) (I (by omega : 0 < (limbs y).getD 0 0) (I (by intro u hu; simp only [List.mem_cons, List.not_mem_nil, or_false] at hu; subst hu; have := Nat.mod_lt x (show 0 < (limbs y).getD 0 0 by omega); omega : ∀ u ∈ [x % ((limbs y).getD 0 0)], u < 4294967296) (And.intro (by rw [hy1] : x / ((limbs y).getD 0 0) = x / y) (by rw [hy1]; rfl : valL [x % ((limbs y).getD 0 0)] = x % y))))) (fun (h6 : ¬ ((limbs y).length = 1)) => have hyx := (show y ≤ x from by have := mt cmp_lt0.2 (show ¬ cmpN x y < 0 by omega); omega); have hg0 := limbs_getD_lt y ((limbs y).length - 1); have hsd := @bl_32 _ hg0; have hC0 := DivC.mk' (x := x) (y := y) (by omega) hyx; I (by omega : 1 ≤ (limbs y).length) (I (by omega : ((limbs y).length) - 1 < (limbs y).length) ((fun (s : Nat) (hs : s = 32 - bl ((limbs y).getD (((limbs y).length) - 1) 0)) => have hC := (show DivC x y s from by subst hs; exact hC0); have hss := hC.hs; have hV := hC.hV; have hC2 := hC.h2; have hCx := hC.hyx; I (padL_lt _ _ : ∀ u ∈ padL (y * 2 ^ s) ((limbs y).length + 1), u < 4294967296) (I (raise_val y s (by omega) : valL (padL (y * 2 ^ s) ((limbs y).length + 1)) = y * 2 ^ s) (I (lt2_raise hx1 (by omega) : lt2 (y * 2 ^ s) 1099511627808) ((fun (m : Nat) (hm : m = (limbs y).length) => have hDt := (show 2147483648 ≤ (limbs (y * 2 ^ s)).getD (m - 1) 0 from by subst hm; exact hC.ht); I (by omega : m ≤ (limbs x).length + 1) (I (by omega : ((limbs x).length + 1) - m = ((limbs x).length + 1) - m) (I (DivZ.start hC (by omega) : DivZ x y s (((((limbs x).length + 1) - m : Nat) : Int) - 1) (padL (x * 2 ^ s) ((limbs x).length + 1)) (List.replicate (((limbs x).length + 1) - m) (0 : Nat))) (fun (z : Int) (out : List Nat) (ql : List Nat) (hb7 : HB [.s 13 (.int .i64) (.n 1099511627776), .bk 66 (.nat .u32) (.n 4294967295), .a 77 (.nat .u32) (.n 4294967295)] (z, out, ql)) (hD : DivZ x y s z out ql) => have hv75 := (show Int.natAbs z ≤ 1099511627776 from hb7.1); have hv76 := (show ∀ u ∈ out, u ≤ 4294967295 from hb7.2.1); have hv77 := (show ∀ u ∈ ql, u ≤ 4294967295 from hb7.2.2); have hDb := hD.b; have hg := (getD_lt (by omega) hD.h.hu : ∀ k, out.getD k 0 < 4294967296); And.intro (fun (h8 : 0 ≤ z) => (fun (j : Nat) (hj : j = z.toNat) => have hz0 := (show 0 ≤ z by omega); have hD1 := hD.at hz0 hj; have hga := hg (j + m); have hgb := hg (j + m - 1); have hgc := hg (j + m - 2); have hva := limbs_getD_lt (y * 2 ^ s) (m - 1); have hvb := limbs_getD_lt (y * 2 ^ s) (m - 2); I (by omega : z + (m : Int) = ((j + m : Nat) : Int)) (I (by omega : j + m < (limbs x).length + 1) (I (by omega : j + m < out.length) (I (by omega : (z + (m : Int)) - 1 = ((j + m - 1 : Nat) : Int)) (I (by omega : j + m - 1 < (limbs x).length + 1) (I (by omega : j + m - 1 < out.length) (I (bi_or _ 32 rfl (by omega) (by omega) : BinIs .or .u64 (((out.getD (j + m) 0) * 2 ^ 32 : Nat) : Int) ((out.getD (j + m - 1) 0 : Nat) : Int) ((((out.getD (j + m) 0) * 2 ^ 32) + (out.getD (j + m - 1) 0) : Nat) : Int)) (I (by omega : ((out.getD (j + m) 0) * 2 ^ 32) + (out.getD (j + m - 1) 0) ≤ 18446744073709551615) ((fun (t : Nat) (ht : t = ((out.getD (j + m) 0) * 2 ^ 32) + (out.getD (j + m - 1) 0)) => I (by omega : 1 ≤ m) (I (by omega : m - 1 < (limbs (y * 2 ^ s)).length) (I (by omega : 0 < (limbs (y * 2 ^ s)).getD (m - 1) 0) (I (by omega : 1 ≤ m) (I (by omega : m - 1 < (limbs (y * 2 ^ s)).length) (I (by omega : 0 < (limbs (y * 2 ^ s)).getD (m - 1) 0) (I (by subst hm; have hE0 := Est.start hC hD1 ht; first | exact hE0.hq | exact Nat.le_of_lt_succ hE0.hr : Bnd (.nat .u64) (.n 4294967297) (t / ((limbs (y * 2 ^ s)).getD (m - 1) 0))) (I (by subst hm; exact Est.start hC hD1 ht : Est x y s j out (t / ((limbs (y * 2 ^ s)).getD (m - 1) 0)) (t % ((limbs (y * 2 ^ s)).getD (m - 1) 0))) (fun (q : Nat) (r : Nat) (hb9 : HB [.s 15 (.nat .u64) (.n 4294967297), .s 16 (.nat .u64) (.n 4294967295)] (q, r)) (hE : Est x y s j out q r) => have hv63 := (show q ≤ 4294967297 from hb9.1); have hv64 := (show r ≤ 4294967295 from hb9.2); have hEq := hE.hq; have hEr := hE.hr; And.intro (fun (h10 : 4294967296 ≤ q) => have hTest := (show 4294967296 ≤ q ∨ r * 4294967296 + out.getD (j + m - 2) 0 < q * (limbs (y * 2 ^ s)).getD (m - 2) 0 from by first | exact .inl (by omega) | exact .inr (by omega)); have hq1 := (show 1 ≤ q from by subst hm; exact (hE.less hC hD1 hTest).2); I (by omega : 1 ≤ q) (I (by omega : 1 ≤ m) (I (by omega : m - 1 < (limbs (y * 2 ^ s)).length) (And.intro (fun (h11 : 4294967296 ≤ r + ((limbs (y * 2 ^ s)).getD (m - 1) 0)) => have hG := (show Dig x y s j out (q - 1) from by subst hm; first | exact hE.brk hC hD1 hTest (by omega) | exact hE.fin hC hD1 (by omega) (by omega)); I (MsI.start hD1.hu : MsI y s j (q - 1) out 0 0 0 out) (fun (i2 : Nat) (b : Nat) (k : Nat) (ls2 : List Nat) (hb12 : HB [.s 156 (.nat .i64) (.n 137438953472), .s 17 (.nat .u64) (.n 1), .s 18 (.nat .u64) (.n 4294967295), .bk 66 (.nat .u32) (.n 4294967295)] (i2, b, k, ls2)) (hM : MsI y s j (q - 1) out i2 k b ls2) => have hv23 := (show i2 ≤ 137438953472 from hb12.1); have hv24 := (show b ≤ 1 from hb12.2.1); have hv25 := (show k ≤ 4294967295 from hb12.2.2.1); have hv26 := (show ∀ u ∈ ls2, u ≤ 4294967295 from hb12.2.2.2); have hMl := hM.hl; have hMi := hM.hi; have hMk := hM.hk; have hMb := hM.hb; have hGq := hG.hq; have hmg := (getD_lt (by omega) hM.hu : ∀ k, ls2.getD k 0 < 4294967296); have hmg0 := hmg (i2 + j); have hmt := hmg (j + m); have hmv := limbs_getD_lt (y * 2 ^ s) i2; have hmm := (Nat.mul_le_mul (by omega) (by omega) : (q - 1) * (limbs (y * 2 ^ s)).getD i2 0 ≤ 4294967295 * 4294967295); And.intro (fun (h13 : i2 < (limbs (y * 2 ^ s)).length) => I (by omega : i2 < (limbs (y * 2 ^ s)).length) (I (bi_add (by omega) : BinIs .add .u64 (k : Int) (((q - 1) * ((limbs (y * 2 ^ s)).getD i2 0) : Nat) : Int) ((k + ((q - 1) * ((limbs (y * 2 ^ s)).getD i2 0)) : Nat) : Int)) (I (by omega : k + ((q - 1) * ((limbs (y * 2 ^ s)).getD i2 0)) ≤ 18446744073709551615) (I (by omega : (i2 : Int) + z = ((i2 + j : Nat) : Int)) (I (by omega : i2 + j < (limbs x).length + 1) (I (by omega : i2 + j < ls2.length) (I (bi_and (by omega) : BinIs .and .u64 ((k + ((q - 1) * ((limbs (y * 2 ^ s)).getD i2 0)) : Nat) : Int) 4294967295 (((k + ((q - 1) * ((limbs (y * 2 ^ s)).getD i2 0))) % 4294967296 : Nat) : Int)) (I (by omega : (k + ((q - 1) * ((limbs (y * 2 ^ s)).getD i2 0))) % 4294967296 ≤ 4294967295) (I (bi_dif (by first | omega | exact dif_lt) (by omega) : BinIs .sub .u64 ((ls2.getD (i2 + j) 0 : Nat) : Int) (((k + ((q - 1) * ((limbs (y * 2 ^ s)).getD i2 0))) % 4294967296 : Nat) : Int) ((dif (ls2.getD (i2 + j) 0) ((k + ((q - 1) * ((limbs (y * 2 ^ s)).getD i2 0))) % 4294967296) : Nat) : Int)) (I (dif_le _ _ : dif (ls2.getD (i2 + j) 0) ((k + ((q - 1) * ((limbs (y * 2 ^ s)).getD i2 0))) % 4294967296) ≤ 18446744073709551615) (I (bi_dif (by first | omega | exact dif_lt) (by omega) : BinIs .sub .u64 ((dif (ls2.getD (i2 + j) 0) ((k + ((q - 1) * ((limbs (y * 2 ^ s)).getD i2 0))) % 4294967296) : Nat) : Int) (b : Int) ((dif (dif (ls2.getD (i2 + j) 0) ((k + ((q - 1) * ((limbs (y * 2 ^ s)).getD i2 0))) % 4294967296)) b : Nat) : Int)) (I (dif_le _ _ : dif (dif (ls2.getD (i2 + j) 0) ((k + ((q - 1) * ((limbs (y * 2 ^ s)).getD i2 0))) % 4294967296)) b ≤ 18446744073709551615) (I (by omega : (i2 : Int) + z = ((i2 + j : Nat) : Int)) (I (by omega : i2 + j < (limbs x).length + 1) (I (by omega : i2 + j < ls2.length) (I (show (i2 + 1) ≤ 137438953472 by omega : Bnd (.nat .i64) (.n 137438953472) (i2 + 1)) (And.intro ((hM.step (by omega) (by omega) hG.hq rfl rfl).1 : MsI y s j (q - 1) out (i2 + 1) ((k + ((q - 1) * ((limbs (y * 2 ^ s)).getD i2 0))) / 2 ^ 32) ((dif (dif (ls2.getD (i2 + j) 0) ((k + ((q - 1) * ((limbs (y * 2 ^ s)).getD i2 0))) % 4294967296)) b) / 2 ^ 63) (ls2.set (i2 + j) ((dif (dif (ls2.getD (i2 + j) 0) ((k + ((q - 1) * ((limbs (y * 2 ^ s)).getD i2 0))) % 4294967296)) b) % 4294967296))) (by omega : (limbs (y * 2 ^ s)).length - (i2 + 1) < (limbs (y * 2 ^ s)).length - i2)))))))))))))))))) (fun (h14 : ¬ (i2 < (limbs (y * 2 ^ s)).length)) => have hM1 := (show i2 = m by omega) ▸ hM; I (by omega : z + (m : Int) = ((j + m : Nat) : Int)) (I (by omega : j + m < (limbs x).length + 1) (I (by omega : j + m < ls2.length) (I (bi_dif (by first | omega | exact dif_lt) (by omega) : BinIs .sub .u64 ((ls2.getD (j + m) 0 : Nat) : Int) (k : Int) ((dif (ls2.getD (j + m) 0) k : Nat) : Int)) (I (dif_le _ _ : dif (ls2.getD (j + m) 0) k ≤ 18446744073709551615) (I (bi_dif (by first | omega | exact dif_lt) (by omega) : BinIs .sub .u64 ((dif (ls2.getD (j + m) 0) k : Nat) : Int) (b : Int) ((dif (dif (ls2.getD (j + m) 0) k) b : Nat) : Int)) (I (dif_le _ _ : dif (dif (ls2.getD (j + m) 0) k) b ≤ 18446744073709551615) ((fun (d : Nat) (hd : d = dif (dif (ls2.getD (j + m) 0) k) b) => I (by omega : z + (m : Int) = ((j + m : Nat) : Int)) (I (by omega : j + m < (limbs x).length + 1) (I (by omega : j + m < ls2.length) (have hT := MsI.top hM1 (by omega) (by omega) hd; have hT1 := hT.1; have hT2 := hT.2.1; have hT3 := hT.2.2.1; have hT4 := hT.2.2.2.1; have hT5 := hT.2.2.2.2; And.intro (fun (h15 : d / 2 ^ 63 ≠ 0) => have hd1 := (show d / 9223372036854775808 = 1 by omega); have hT1 := (show _ from by rw [hd1] at hT1; exact hT1); have hq1 := (show 1 ≤ (q - 1) from by subst hm; exact Dig.pos hC hD1 hT4 hT5 hT1); I (by omega : 1 ≤ q - 1) (I (AbI.start hT5 : AbI y s j (ls2.set (j + m) (d % 4294967296)) 0 0 (ls2.set (j + m) (d % 4294967296))) (fun (i3 : Nat) (c3 : Nat) (ls3 : List Nat) (hb16 : HB [.s 216 (.nat .i64) (.n 137438953472), .s 18 (.nat .u64) (.n 1), .bk 66 (.nat .u32) (.n 4294967295)] (i3, c3, ls3)) (hB : AbI y s j (ls2.set (j + m) (d % 4294967296)) i3 c3 ls3) => have hv19 := (show i3 ≤ 137438953472 from hb16.1); have hv20 := (show c3 ≤ 1 from hb16.2.1); have hv21 := (show ∀ u ∈ ls3, u ≤ 4294967295 from hb16.2.2); have hBl := hB.hl; have hBi := hB.hi; have hBc := hB.hc; have hbg := (getD_lt (by omega) hB.hu : ∀ k, ls3.getD k 0 < 4294967296); have hbg0 := hbg (i3 + j); have hbt := hbg (j + m); have hbv := limbs_getD_lt (y * 2 ^ s) i3; And.intro (fun (h17 : i3 < (limbs (y * 2 ^ s)).length) => I (by omega : i3 < (limbs (y * 2 ^ s)).length) (I (by omega : (i3 : Int) + z = ((i3 + j : Nat) : Int)) (I (by omega : i3 + j < (limbs x).length + 1) (I (by omega : i3 + j < ls3.length) (I (by omega : (i3 : Int) + z = ((i3 + j : Nat) : Int)) (I (by omega : i3 + j < (limbs x).length + 1) (I (by omega : i3 + j < ls3.length) (I (show (i3 + 1) ≤ 137438953472 by omega : Bnd (.nat .i64) (.n 137438953472) (i3 + 1)) (And.intro (hB.step (by omega) (by omega) rfl : AbI y s j (ls2.set (j + m) (d % 4294967296)) (i3 + 1) ((c3 + ((ls3.getD (i3 + j) 0) + ((limbs (y * 2 ^ s)).getD i3 0))) / 2 ^ 32) (ls3.set (i3 + j) ((c3 + ((ls3.getD (i3 + j) 0) + ((limbs (y * 2 ^ s)).getD i3 0))) % 4294967296))) (by omega : (limbs (y * 2 ^ s)).length - (i3 + 1) < (limbs (y * 2 ^ s)).length - i3)))))))))) (fun (h18 : ¬ (i3 < (limbs (y * 2 ^ s)).length)) => have hB1 := (show i3 = m by omega) ▸ hB; I (by omega : z + (m : Int) = ((j + m : Nat) : Int)) (I (by omega : j + m < (limbs x).length + 1) (I (by omega : j + m < ls3.length) (I (bi_addw _ _ : BinIs .add .u32 ((ls3.getD (j + m) 0 : Nat) : Int) (c3 : Int) ((((ls3.getD (j + m) 0) + c3) % 4294967296 : Nat) : Int)) (I (by omega : ((ls3.getD (j + m) 0) + c3) % 4294967296 ≤ 4294967295) (I (by omega : z + (m : Int) = ((j + m : Nat) : Int)) (I (by omega : j + m < (limbs x).length + 1) (I (by omega : j + m < ls3.length) (have hA := AbI.top' hB1 (by omega) (by omega); I (by omega : z = (j : Int)) (I (by omega : j < ((limbs x).length + 1) - m) (I (by omega : j < ql.length) (I (show Int.natAbs (z - 1) ≤ 1099511627776 by omega : Bnd (.int .i64) (.n 1099511627776) (z - 1)) (And.intro (by subst hm; first | exact DivZ.of hz0 hj (hD1.even hC hG hT4 hT5 hT3 (by rw [show d / 9223372036854775808 = 0 by omega, Nat.mul_zero, Nat.add_zero] at hT1; exact hT1)) | exact DivZ.of hz0 hj (hA.elim fun c2 hA => hD1.odd hC hG hT4 hT5 hT3 hT1 hA.2.2.1 hA.2.2.2 hA.2.1 hA.1) : DivZ x y s (z - 1) (ls3.set (j + m) (((ls3.getD (j + m) 0) + c3) % 4294967296)) (ql.set j (((q - 1) - 1) % 4294967296))) (by omega : ((z - 1) + 1).toNat < (z + 1).toNat))))))))))))))))) (fun (h22 : ¬ (d / 2 ^ 63 ≠ 0)) => I (by omega : z = (j : Int)) (I (by omega : j < ((limbs x).length + 1) - m) (I (by omega : j < ql.length) (I (show Int.natAbs (z - 1) ≤ 1099511627776 by omega : Bnd (.int .i64) (.n 1099511627776) (z - 1)) (And.intro (by subst hm; first | exact DivZ.of hz0 hj (hD1.even hC hG hT4 hT5 hT3 (by rw [show d / 9223372036854775808 = 0 by omega, Nat.mul_zero, Nat.add_zero] at hT1; exact hT1)) | exact DivZ.of hz0 hj (hA.elim fun c2 hA => hD1.odd hC hG hT4 hT5 hT3 hT1 hA.2.2.1 hA.2.2.2 hA.2.1 hA.1) : DivZ x y s (z - 1) (ls2.set (j + m) (d % 4294967296)) (ql.set j ((q - 1) % 4294967296))) (by omega : ((z - 1) + 1).toNat < (z + 1).toNat)))))))))) (dif (dif (ls2.getD (j + m) 0) k) b) rfl)))))))))) (fun (h27 : ¬ (4294967296 ≤ r + ((limbs (y * 2 ^ s)).getD (m - 1) 0))) => I (show (r + ((limbs (y * 2 ^ s)).getD (m - 1) 0)) ≤ 4294967295 by omega : Bnd (.nat .u64) (.n 4294967295) (r + ((limbs (y * 2 ^ s)).getD (m - 1) 0))) (And.intro (by subst hm; exact hE.step hC hD1 hTest (by omega) : Est x y s j out (q - 1) (r + ((limbs (y * 2 ^ s)).getD (m - 1) 0))) (by omega : q - 1 < q))))))) (fun (h28 : ¬ (4294967296 ≤ q)) => I (by omega : 2 ≤ m) (I (by omega : m - 2 < (limbs (y * 2 ^ s)).length) (I (by omega : (z + (m : Int)) - 2 = ((j + m - 2 : Nat) : Int)) (I (by omega : j + m - 2 < (limbs x).length + 1) (I (by omega : j + m - 2 < out.length) (I (bi_or _ 32 rfl (hg _) (by have := hg (j + m - 2); omega) : BinIs .or .u64 ((r * 2 ^ 32 : Nat) : Int) ((out.getD (j + m - 2) 0 : Nat) : Int) (((r * 2 ^ 32) + (out.getD (j + m - 2) 0) : Nat) : Int)) (I (by have := hg (j + m - 2); omega : (r * 2 ^ 32) + (out.getD (j + m - 2) 0) ≤ 18446744073709551615) (And.intro (fun (h29 : (r * 2 ^ 32) + (out.getD (j + m - 2) 0) < q * ((limbs (y * 2 ^ s)).getD (m - 2) 0)) => have hTest := (show 4294967296 ≤ q ∨ r * 4294967296 + out.getD (j + m - 2) 0 < q * (limbs (y * 2 ^ s)).getD (m - 2) 0 from by first | exact .inl (by omega) | exact .inr (by omega)); have hq1 := (show 1 ≤ q from by subst hm; exact (hE.less hC hD1 hTest).2); I (by omega : 1 ≤ q) (I (by omega : 1 ≤ m) (I (by omega : m - 1 < (limbs (y * 2 ^ s)).length) (And.intro (fun (h30 : 4294967296 ≤ r + ((limbs (y * 2 ^ s)).getD (m - 1) 0)) => have hG := (show Dig x y s j out (q - 1) from by subst hm; first | exact hE.brk hC hD1 hTest (by omega) | exact hE.fin hC hD1 (by omega) (by omega)); I (MsI.start hD1.hu : MsI y s j (q - 1) out 0 0 0 out) (fun (i2 : Nat) (b : Nat) (k : Nat) (ls2 : List Nat) (hb31 : HB [.s 156 (.nat .i64) (.n 137438953472), .s 17 (.nat .u64) (.n 1), .s 18 (.nat .u64) (.n 4294967295), .bk 66 (.nat .u32) (.n 4294967295)] (i2, b, k, ls2)) (hM : MsI y s j (q - 1) out i2 k b ls2) => have hv42 := (show i2 ≤ 137438953472 from hb31.1); have hv43 := (show b ≤ 1 from hb31.2.1); have hv44 := (show k ≤ 4294967295 from hb31.2.2.1); have hv45 := (show ∀ u ∈ ls2, u ≤ 4294967295 from hb31.2.2.2); have hMl := hM.hl; have hMi := hM.hi; have hMk := hM.hk; have hMb := hM.hb; have hGq := hG.hq; have hmg := (getD_lt (by omega) hM.hu : ∀ k, ls2.getD k 0 < 4294967296); have hmg0 := hmg (i2 + j); have hmt := hmg (j + m); have hmv := limbs_getD_lt (y * 2 ^ s) i2; have hmm := (Nat.mul_le_mul (by omega) (by omega) : (q - 1) * (limbs (y * 2 ^ s)).getD i2 0 ≤ 4294967295 * 4294967295); And.intro (fun (h32 : i2 < (limbs (y * 2 ^ s)).length) => I (by omega : i2 < (limbs (y * 2 ^ s)).length) (I (bi_add (by omega) : BinIs .add .u64 (k : Int) (((q - 1) * ((limbs (y * 2 ^ s)).getD i2 0) : Nat) : Int) ((k + ((q - 1) * ((limbs (y * 2 ^ s)).getD i2 0)) : Nat) : Int)) (I (by omega : k + ((q - 1) * ((limbs (y * 2 ^ s)).getD i2 0)) ≤ 18446744073709551615) (I (by omega : (i2 : Int) + z = ((i2 + j : Nat) : Int)) (I (by omega : i2 + j < (limbs x).length + 1) (I (by omega : i2 + j < ls2.length) (I (bi_and (by omega) : BinIs .and .u64 ((k + ((q - 1) * ((limbs (y * 2 ^ s)).getD i2 0)) : Nat) : Int) 4294967295 (((k + ((q - 1) * ((limbs (y * 2 ^ s)).getD i2 0))) % 4294967296 : Nat) : Int)) (I (by omega : (k + ((q - 1) * ((limbs (y * 2 ^ s)).getD i2 0))) % 4294967296 ≤ 4294967295) (I (bi_dif (by first | omega | exact dif_lt) (by omega) : BinIs .sub .u64 ((ls2.getD (i2 + j) 0 : Nat) : Int) (((k + ((q - 1) * ((limbs (y * 2 ^ s)).getD i2 0))) % 4294967296 : Nat) : Int) ((dif (ls2.getD (i2 + j) 0) ((k + ((q - 1) * ((limbs (y * 2 ^ s)).getD i2 0))) % 4294967296) : Nat) : Int)) (I (dif_le _ _ : dif (ls2.getD (i2 + j) 0) ((k + ((q - 1) * ((limbs (y * 2 ^ s)).getD i2 0))) % 4294967296) ≤ 18446744073709551615) (I (bi_dif (by first | omega | exact dif_lt) (by omega) : BinIs .sub .u64 ((dif (ls2.getD (i2 + j) 0) ((k + ((q - 1) * ((limbs (y * 2 ^ s)).getD i2 0))) % 4294967296) : Nat) : Int) (b : Int) ((dif (dif (ls2.getD (i2 + j) 0) ((k + ((q - 1) * ((limbs (y * 2 ^ s)).getD i2 0))) % 4294967296)) b : Nat) : Int)) (I (dif_le _ _ : dif (dif (ls2.getD (i2 + j) 0) ((k + ((q - 1) * ((limbs (y * 2 ^ s)).getD i2 0))) % 4294967296)) b ≤ 18446744073709551615) (I (by omega : (i2 : Int) + z = ((i2 + j : Nat) : Int)) (I (by omega : i2 + j < (limbs x).length + 1) (I (by omega : i2 + j < ls2.length) (I (show (i2 + 1) ≤ 137438953472 by omega : Bnd (.nat .i64) (.n 137438953472) (i2 + 1)) (And.intro ((hM.step (by omega) (by omega) hG.hq rfl rfl).1 : MsI y s j (q - 1) out (i2 + 1) ((k + ((q - 1) * ((limbs (y * 2 ^ s)).getD i2 0))) / 2 ^ 32) ((dif (dif (ls2.getD (i2 + j) 0) ((k + ((q - 1) * ((limbs (y * 2 ^ s)).getD i2 0))) % 4294967296)) b) / 2 ^ 63) (ls2.set (i2 + j) ((dif (dif (ls2.getD (i2 + j) 0) ((k + ((q - 1) * ((limbs (y * 2 ^ s)).getD i2 0))) % 4294967296)) b) % 4294967296))) (by omega : (limbs (y * 2 ^ s)).length - (i2 + 1) < (limbs (y * 2 ^ s)).length - i2)))))))))))))))))) (fun (h33 : ¬ (i2 < (limbs (y * 2 ^ s)).length)) => have hM1 := (show i2 = m by omega) ▸ hM; I (by omega : z + (m : Int) = ((j + m : Nat) : Int)) (I (by omega : j + m < (limbs x).length + 1) (I (by omega : j + m < ls2.length) (I (bi_dif (by first | omega | exact dif_lt) (by omega) : BinIs .sub .u64 ((ls2.getD (j + m) 0 : Nat) : Int) (k : Int) ((dif (ls2.getD (j + m) 0) k : Nat) : Int)) (I (dif_le _ _ : dif (ls2.getD (j + m) 0) k ≤ 18446744073709551615) (I (bi_dif (by first | omega | exact dif_lt) (by omega) : BinIs .sub .u64 ((dif (ls2.getD (j + m) 0) k : Nat) : Int) (b : Int) ((dif (dif (ls2.getD (j + m) 0) k) b : Nat) : Int)) (I (dif_le _ _ : dif (dif (ls2.getD (j + m) 0) k) b ≤ 18446744073709551615) ((fun (d : Nat) (hd : d = dif (dif (ls2.getD (j + m) 0) k) b) => I (by omega : z + (m : Int) = ((j + m : Nat) : Int)) (I (by omega : j + m < (limbs x).length + 1) (I (by omega : j + m < ls2.length) (have hT := MsI.top hM1 (by omega) (by omega) hd; have hT1 := hT.1; have hT2 := hT.2.1; have hT3 := hT.2.2.1; have hT4 := hT.2.2.2.1; have hT5 := hT.2.2.2.2; And.intro (fun (h34 : d / 2 ^ 63 ≠ 0) => have hd1 := (show d / 9223372036854775808 = 1 by omega); have hT1 := (show _ from by rw [hd1] at hT1; exact hT1); have hq1 := (show 1 ≤ (q - 1) from by subst hm; exact Dig.pos hC hD1 hT4 hT5 hT1); I (by omega : 1 ≤ q - 1) (I (AbI.start hT5 : AbI y s j (ls2.set (j + m) (d % 4294967296)) 0 0 (ls2.set (j + m) (d % 4294967296))) (fun (i3 : Nat) (c3 : Nat) (ls3 : List Nat) (hb35 : HB [.s 216 (.nat .i64) (.n 137438953472), .s 18 (.nat .u64) (.n 1), .bk 66 (.nat .u32) (.n 4294967295)] (i3, c3, ls3)) (hB : AbI y s j (ls2.set (j + m) (d % 4294967296)) i3 c3 ls3) => have hv38 := (show i3 ≤ 137438953472 from hb35.1); have hv39 := (show c3 ≤ 1 from hb35.2.1); have hv40 := (show ∀ u ∈ ls3, u ≤ 4294967295 from hb35.2.2); have hBl := hB.hl; have hBi := hB.hi; have hBc := hB.hc; have hbg := (getD_lt (by omega) hB.hu : ∀ k, ls3.getD k 0 < 4294967296); have hbg0 := hbg (i3 + j); have hbt := hbg (j + m); have hbv := limbs_getD_lt (y * 2 ^ s) i3; And.intro (fun (h36 : i3 < (limbs (y * 2 ^ s)).length) => I (by omega : i3 < (limbs (y * 2 ^ s)).length) (I (by omega : (i3 : Int) + z = ((i3 + j : Nat) : Int)) (I (by omega : i3 + j < (limbs x).length + 1) (I (by omega : i3 + j < ls3.length) (I (by omega : (i3 : Int) + z = ((i3 + j : Nat) : Int)) (I (by omega : i3 + j < (limbs x).length + 1) (I (by omega : i3 + j < ls3.length) (I (show (i3 + 1) ≤ 137438953472 by omega : Bnd (.nat .i64) (.n 137438953472) (i3 + 1)) (And.intro (hB.step (by omega) (by omega) rfl : AbI y s j (ls2.set (j + m) (d % 4294967296)) (i3 + 1) ((c3 + ((ls3.getD (i3 + j) 0) + ((limbs (y * 2 ^ s)).getD i3 0))) / 2 ^ 32) (ls3.set (i3 + j) ((c3 + ((ls3.getD (i3 + j) 0) + ((limbs (y * 2 ^ s)).getD i3 0))) % 4294967296))) (by omega : (limbs (y * 2 ^ s)).length - (i3 + 1) < (limbs (y * 2 ^ s)).length - i3)))))))))) (fun (h37 : ¬ (i3 < (limbs (y * 2 ^ s)).length)) => have hB1 := (show i3 = m by omega) ▸ hB; I (by omega : z + (m : Int) = ((j + m : Nat) : Int)) (I (by omega : j + m < (limbs x).length + 1) (I (by omega : j + m < ls3.length) (I (bi_addw _ _ : BinIs .add .u32 ((ls3.getD (j + m) 0 : Nat) : Int) (c3 : Int) ((((ls3.getD (j + m) 0) + c3) % 4294967296 : Nat) : Int)) (I (by omega : ((ls3.getD (j + m) 0) + c3) % 4294967296 ≤ 4294967295) (I (by omega : z + (m : Int) = ((j + m : Nat) : Int)) (I (by omega : j + m < (limbs x).length + 1) (I (by omega : j + m < ls3.length) (have hA := AbI.top' hB1 (by omega) (by omega); I (by omega : z = (j : Int)) (I (by omega : j < ((limbs x).length + 1) - m) (I (by omega : j < ql.length) (I (show Int.natAbs (z - 1) ≤ 1099511627776 by omega : Bnd (.int .i64) (.n 1099511627776) (z - 1)) (And.intro (by subst hm; first | exact DivZ.of hz0 hj (hD1.even hC hG hT4 hT5 hT3 (by rw [show d / 9223372036854775808 = 0 by omega, Nat.mul_zero, Nat.add_zero] at hT1; exact hT1)) | exact DivZ.of hz0 hj (hA.elim fun c2 hA => hD1.odd hC hG hT4 hT5 hT3 hT1 hA.2.2.1 hA.2.2.2 hA.2.1 hA.1) : DivZ x y s (z - 1) (ls3.set (j + m) (((ls3.getD (j + m) 0) + c3) % 4294967296)) (ql.set j (((q - 1) - 1) % 4294967296))) (by omega : ((z - 1) + 1).toNat < (z + 1).toNat))))))))))))))))) (fun (h41 : ¬ (d / 2 ^ 63 ≠ 0)) => I (by omega : z = (j : Int)) (I (by omega : j < ((limbs x).length + 1) - m) (I (by omega : j < ql.length) (I (show Int.natAbs (z - 1) ≤ 1099511627776 by omega : Bnd (.int .i64) (.n 1099511627776) (z - 1)) (And.intro (by subst hm; first | exact DivZ.of hz0 hj (hD1.even hC hG hT4 hT5 hT3 (by rw [show d / 9223372036854775808 = 0 by omega, Nat.mul_zero, Nat.add_zero] at hT1; exact hT1)) | exact DivZ.of hz0 hj (hA.elim fun c2 hA => hD1.odd hC hG hT4 hT5 hT3 hT1 hA.2.2.1 hA.2.2.2 hA.2.1 hA.1) : DivZ x y s (z - 1) (ls2.set (j + m) (d % 4294967296)) (ql.set j ((q - 1) % 4294967296))) (by omega : ((z - 1) + 1).toNat < (z + 1).toNat)))))))))) (dif (dif (ls2.getD (j + m) 0) k) b) rfl)))))))))) (fun (h46 : ¬ (4294967296 ≤ r + ((limbs (y * 2 ^ s)).getD (m - 1) 0))) => I (show (r + ((limbs (y * 2 ^ s)).getD (m - 1) 0)) ≤ 4294967295 by omega : Bnd (.nat .u64) (.n 4294967295) (r + ((limbs (y * 2 ^ s)).getD (m - 1) 0))) (And.intro (by subst hm; exact hE.step hC hD1 hTest (by omega) : Est x y s j out (q - 1) (r + ((limbs (y * 2 ^ s)).getD (m - 1) 0))) (by omega : q - 1 < q))))))) (fun (h47 : ¬ ((r * 2 ^ 32) + (out.getD (j + m - 2) 0) < q * ((limbs (y * 2 ^ s)).getD (m - 2) 0))) => have hG := (show Dig x y s j out q from by subst hm; first | exact hE.brk hC hD1 hTest (by omega) | exact hE.fin hC hD1 (by omega) (by omega)); I (MsI.start hD1.hu : MsI y s j q out 0 0 0 out) (fun (i2 : Nat) (b : Nat) (k : Nat) (ls2 : List Nat) (hb48 : HB [.s 156 (.nat .i64) (.n 137438953472), .s 17 (.nat .u64) (.n 1), .s 18 (.nat .u64) (.n 4294967295), .bk 66 (.nat .u32) (.n 4294967295)] (i2, b, k, ls2)) (hM : MsI y s j q out i2 k b ls2) => have hv59 := (show i2 ≤ 137438953472 from hb48.1); have hv60 := (show b ≤ 1 from hb48.2.1); have hv61 := (show k ≤ 4294967295 from hb48.2.2.1); have hv62 := (show ∀ u ∈ ls2, u ≤ 4294967295 from hb48.2.2.2); have hMl := hM.hl; have hMi := hM.hi; have hMk := hM.hk; have hMb := hM.hb; have hGq := hG.hq; have hmg := (getD_lt (by omega) hM.hu : ∀ k, ls2.getD k 0 < 4294967296); have hmg0 := hmg (i2 + j); have hmt := hmg (j + m); have hmv := limbs_getD_lt (y * 2 ^ s) i2; have hmm := (Nat.mul_le_mul (by omega) (by omega) : q * (limbs (y * 2 ^ s)).getD i2 0 ≤ 4294967295 * 4294967295); And.intro (fun (h49 : i2 < (limbs (y * 2 ^ s)).length) => I (by omega : i2 < (limbs (y * 2 ^ s)).length) (I (bi_add (by omega) : BinIs .add .u64 (k : Int) ((q * ((limbs (y * 2 ^ s)).getD i2 0) : Nat) : Int) ((k + (q * ((limbs (y * 2 ^ s)).getD i2 0)) : Nat) : Int)) (I (by omega : k + (q * ((limbs (y * 2 ^ s)).getD i2 0)) ≤ 18446744073709551615) (I (by omega : (i2 : Int) + z = ((i2 + j : Nat) : Int)) (I (by omega : i2 + j < (limbs x).length + 1) (I (by omega : i2 + j < ls2.length) (I (bi_and (by omega) : BinIs .and .u64 ((k + (q * ((limbs (y * 2 ^ s)).getD i2 0)) : Nat) : Int) 4294967295 (((k + (q * ((limbs (y * 2 ^ s)).getD i2 0))) % 4294967296 : Nat) : Int)) (I (by omega : (k + (q * ((limbs (y * 2 ^ s)).getD i2 0))) % 4294967296 ≤ 4294967295) (I (bi_dif (by first | omega | exact dif_lt) (by omega) : BinIs .sub .u64 ((ls2.getD (i2 + j) 0 : Nat) : Int) (((k + (q * ((limbs (y * 2 ^ s)).getD i2 0))) % 4294967296 : Nat) : Int) ((dif (ls2.getD (i2 + j) 0) ((k + (q * ((limbs (y * 2 ^ s)).getD i2 0))) % 4294967296) : Nat) : Int)) (I (dif_le _ _ : dif (ls2.getD (i2 + j) 0) ((k + (q * ((limbs (y * 2 ^ s)).getD i2 0))) % 4294967296) ≤ 18446744073709551615) (I (bi_dif (by first | omega | exact dif_lt) (by omega) : BinIs .sub .u64 ((dif (ls2.getD (i2 + j) 0) ((k + (q * ((limbs (y * 2 ^ s)).getD i2 0))) % 4294967296) : Nat) : Int) (b : Int) ((dif (dif (ls2.getD (i2 + j) 0) ((k + (q * ((limbs (y * 2 ^ s)).getD i2 0))) % 4294967296)) b : Nat) : Int)) (I (dif_le _ _ : dif (dif (ls2.getD (i2 + j) 0) ((k + (q * ((limbs (y * 2 ^ s)).getD i2 0))) % 4294967296)) b ≤ 18446744073709551615) (I (by omega : (i2 : Int) + z = ((i2 + j : Nat) : Int)) (I (by omega : i2 + j < (limbs x).length + 1) (I (by omega : i2 + j < ls2.length) (I (show (i2 + 1) ≤ 137438953472 by omega : Bnd (.nat .i64) (.n 137438953472) (i2 + 1)) (And.intro ((hM.step (by omega) (by omega) hG.hq rfl rfl).1 : MsI y s j q out (i2 + 1) ((k + (q * ((limbs (y * 2 ^ s)).getD i2 0))) / 2 ^ 32) ((dif (dif (ls2.getD (i2 + j) 0) ((k + (q * ((limbs (y * 2 ^ s)).getD i2 0))) % 4294967296)) b) / 2 ^ 63) (ls2.set (i2 + j) ((dif (dif (ls2.getD (i2 + j) 0) ((k + (q * ((limbs (y * 2 ^ s)).getD i2 0))) % 4294967296)) b) % 4294967296))) (by omega : (limbs (y * 2 ^ s)).length - (i2 + 1) < (limbs (y * 2 ^ s)).length - i2)))))))))))))))))) (fun (h50 : ¬ (i2 < (limbs (y * 2 ^ s)).length)) => have hM1 := (show i2 = m by omega) ▸ hM; I (by omega : z + (m : Int) = ((j + m : Nat) : Int)) (I (by omega : j + m < (limbs x).length + 1) (I (by omega : j + m < ls2.length) (I (bi_dif (by first | omega | exact dif_lt) (by omega) : BinIs .sub .u64 ((ls2.getD (j + m) 0 : Nat) : Int) (k : Int) ((dif (ls2.getD (j + m) 0) k : Nat) : Int)) (I (dif_le _ _ : dif (ls2.getD (j + m) 0) k ≤ 18446744073709551615) (I (bi_dif (by first | omega | exact dif_lt) (by omega) : BinIs .sub .u64 ((dif (ls2.getD (j + m) 0) k : Nat) : Int) (b : Int) ((dif (dif (ls2.getD (j + m) 0) k) b : Nat) : Int)) (I (dif_le _ _ : dif (dif (ls2.getD (j + m) 0) k) b ≤ 18446744073709551615) ((fun (d : Nat) (hd : d = dif (dif (ls2.getD (j + m) 0) k) b) => I (by omega : z + (m : Int) = ((j + m : Nat) : Int)) (I (by omega : j + m < (limbs x).length + 1) (I (by omega : j + m < ls2.length) (have hT := MsI.top hM1 (by omega) (by omega) hd; have hT1 := hT.1; have hT2 := hT.2.1; have hT3 := hT.2.2.1; have hT4 := hT.2.2.2.1; have hT5 := hT.2.2.2.2; And.intro (fun (h51 : d / 2 ^ 63 ≠ 0) => have hd1 := (show d / 9223372036854775808 = 1 by omega); have hT1 := (show _ from by rw [hd1] at hT1; exact hT1); have hq1 := (show 1 ≤ q from by subst hm; exact Dig.pos hC hD1 hT4 hT5 hT1); I (by omega : 1 ≤ q) (I (AbI.start hT5 : AbI y s j (ls2.set (j + m) (d % 4294967296)) 0 0 (ls2.set (j + m) (d % 4294967296))) (fun (i3 : Nat) (c3 : Nat) (ls3 : List Nat) (hb52 : HB [.s 216 (.nat .i64) (.n 137438953472), .s 18 (.nat .u64) (.n 1), .bk 66 (.nat .u32) (.n 4294967295)] (i3, c3, ls3)) (hB : AbI y s j (ls2.set (j + m) (d % 4294967296)) i3 c3 ls3) => have hv55 := (show i3 ≤ 137438953472 from hb52.1); have hv56 := (show c3 ≤ 1 from hb52.2.1); have hv57 := (show ∀ u ∈ ls3, u ≤ 4294967295 from hb52.2.2); have hBl := hB.hl; have hBi := hB.hi; have hBc := hB.hc; have hbg := (getD_lt (by omega) hB.hu : ∀ k, ls3.getD k 0 < 4294967296); have hbg0 := hbg (i3 + j); have hbt := hbg (j + m); have hbv := limbs_getD_lt (y * 2 ^ s) i3; And.intro (fun (h53 : i3 < (limbs (y * 2 ^ s)).length) => I (by omega : i3 < (limbs (y * 2 ^ s)).length) (I (by omega : (i3 : Int) + z = ((i3 + j : Nat) : Int)) (I (by omega : i3 + j < (limbs x).length + 1) (I (by omega : i3 + j < ls3.length) (I (by omega : (i3 : Int) + z = ((i3 + j : Nat) : Int)) (I (by omega : i3 + j < (limbs x).length + 1) (I (by omega : i3 + j < ls3.length) (I (show (i3 + 1) ≤ 137438953472 by omega : Bnd (.nat .i64) (.n 137438953472) (i3 + 1)) (And.intro (hB.step (by omega) (by omega) rfl : AbI y s j (ls2.set (j + m) (d % 4294967296)) (i3 + 1) ((c3 + ((ls3.getD (i3 + j) 0) + ((limbs (y * 2 ^ s)).getD i3 0))) / 2 ^ 32) (ls3.set (i3 + j) ((c3 + ((ls3.getD (i3 + j) 0) + ((limbs (y * 2 ^ s)).getD i3 0))) % 4294967296))) (by omega : (limbs (y * 2 ^ s)).length - (i3 + 1) < (limbs (y * 2 ^ s)).length - i3)))))))))) (fun (h54 : ¬ (i3 < (limbs (y * 2 ^ s)).length)) => have hB1 := (show i3 = m by omega) ▸ hB; I (by omega : z + (m : Int) = ((j + m : Nat) : Int)) (I (by omega : j + m < (limbs x).length + 1) (I (by omega : j + m < ls3.length) (I (bi_addw _ _ : BinIs .add .u32 ((ls3.getD (j + m) 0 : Nat) : Int) (c3 : Int) ((((ls3.getD (j + m) 0) + c3) % 4294967296 : Nat) : Int)) (I (by omega : ((ls3.getD (j + m) 0) + c3) % 4294967296 ≤ 4294967295) (I (by omega : z + (m : Int) = ((j + m : Nat) : Int)) (I (by omega : j + m < (limbs x).length + 1) (I (by omega : j + m < ls3.length) (have hA := AbI.top' hB1 (by omega) (by omega); I (by omega : z = (j : Int)) (I (by omega : j < ((limbs x).length + 1) - m) (I (by omega : j < ql.length) (I (show Int.natAbs (z - 1) ≤ 1099511627776 by omega : Bnd (.int .i64) (.n 1099511627776) (z - 1)) (And.intro (by subst hm; first | exact DivZ.of hz0 hj (hD1.even hC hG hT4 hT5 hT3 (by rw [show d / 9223372036854775808 = 0 by omega, Nat.mul_zero, Nat.add_zero] at hT1; exact hT1)) | exact DivZ.of hz0 hj (hA.elim fun c2 hA => hD1.odd hC hG hT4 hT5 hT3 hT1 hA.2.2.1 hA.2.2.2 hA.2.1 hA.1) : DivZ x y s (z - 1) (ls3.set (j + m) (((ls3.getD (j + m) 0) + c3) % 4294967296)) (ql.set j ((q - 1) % 4294967296))) (by omega : ((z - 1) + 1).toNat < (z + 1).toNat))))))))))))))))) (fun (h58 : ¬ (d / 2 ^ 63 ≠ 0)) => I (by omega : z = (j : Int)) (I (by omega : j < ((limbs x).length + 1) - m) (I (by omega : j < ql.length) (I (show Int.natAbs (z - 1) ≤ 1099511627776 by omega : Bnd (.int .i64) (.n 1099511627776) (z - 1)) (And.intro (by subst hm; first | exact DivZ.of hz0 hj (hD1.even hC hG hT4 hT5 hT3 (by rw [show d / 9223372036854775808 = 0 by omega, Nat.mul_zero, Nat.add_zero] at hT1; exact hT1)) | exact DivZ.of hz0 hj (hA.elim fun c2 hA => hD1.odd hC hG hT4 hT5 hT3 hT1 hA.2.2.1 hA.2.2.2 hA.2.1 hA.1) : DivZ x y s (z - 1) (ls2.set (j + m) (d % 4294967296)) (ql.set j (q % 4294967296))) (by omega : ((z - 1) + 1).toNat < (z + 1).toNat)))))))))) (dif (dif (ls2.getD (j + m) 0) k) b) rfl))))))))))))))))))))))))))) (((out.getD (j + m) 0) * 2 ^ 32) + (out.getD (j + m - 1) 0)) rfl))))))))) z.toNat rfl) (fun (h65 : ¬ (0 ≤ z)) => have hF := hD.fin (by omega); I (by omega : (limbs x).length + 1 = out.length) (I (DownI.start hF.2.2.2 hDb.2.2.1 rfl : DownI (valL out) s ((limbs x).length + 1) 0 out) (fun (i4 : Nat) (ls4 : List Nat) (hb66 : HB [.s 262 (.nat .i64) (.n 1099511627776), .bk 66 (.nat .u32) (.n 4294967295)] (i4, ls4)) (hW : DownI (valL out) s ((limbs x).length + 1) i4 ls4) => have hv73 := (show i4 ≤ 1099511627776 from hb66.1); have hv74 := (show ∀ u ∈ ls4, u ≤ 4294967295 from hb66.2); have hWl := hW.hl; have hWi := hW.hi; have hWN := hW.hN; have hwg := (getD_lt (by omega) hW.hu : ∀ k, ls4.getD k 0 < 4294967296); And.intro (fun (h67 : i4 < (limbs (valL out)).length) => I (by omega : i4 < (limbs (valL out)).length) (I (by omega : i4 < ls4.length) (I (bi_shr _ _ (show s ≤ 32 by omega) : BinIs .shr .u32 ((ls4.getD i4 0 : Nat) : Int) (s : Int) (((ls4.getD i4 0) / 2 ^ s : Nat) : Int)) (I (Nat.le_trans (Nat.div_le_self _ _) (by have := hwg i4; omega) : (ls4.getD i4 0) / 2 ^ s ≤ 4294967295) (I (by omega : i4 < (limbs (valL out)).length) (I (by omega : i4 < ls4.length) (And.intro (fun (h68 : 0 < s) => And.intro (fun (h69 : i4 + 1 < (limbs (valL out)).length) => I (by omega : i4 < (limbs (valL out)).length) (I (by simp only [List.length_set]; omega : i4 < (ls4.set i4 ((ls4.getD i4 0) / 2 ^ s)).length) (I (by omega : i4 + 1 < (limbs (valL out)).length) (I (by simp only [List.length_set]; omega : i4 + 1 < (ls4.set i4 ((ls4.getD i4 0) / 2 ^ s)).length) (I (by omega : s ≤ 32) (I (bi_shlw _ _ (by omega) : BinIs .shl .u32 (((ls4.set i4 ((ls4.getD i4 0) / 2 ^ s)).getD (i4 + 1) 0 : Nat) : Int) ((32 - s : Nat) : Int) ((((ls4.set i4 ((ls4.getD i4 0) / 2 ^ s)).getD (i4 + 1) 0) * 2 ^ (32 - s) % 4294967296 : Nat) : Int)) (I (by omega : ((ls4.set i4 ((ls4.getD i4 0) / 2 ^ s)).getD (i4 + 1) 0) * 2 ^ (32 - s) % 4294967296 ≤ 4294967295) (I ((down_bi (by omega) hwg (by omega)).1 : BinIs .or .u32 (((ls4.set i4 ((ls4.getD i4 0) / 2 ^ s)).getD i4 0 : Nat) : Int) ((((ls4.set i4 ((ls4.getD i4 0) / 2 ^ s)).getD (i4 + 1) 0) * 2 ^ (32 - s) % 4294967296 : Nat) : Int) ((((ls4.set i4 ((ls4.getD i4 0) / 2 ^ s)).getD i4 0) + (((ls4.set i4 ((ls4.getD i4 0) / 2 ^ s)).getD (i4 + 1) 0) * 2 ^ (32 - s) % 4294967296) : Nat) : Int)) (I ((down_bi (by omega) hwg (by omega)).2 : ((ls4.set i4 ((ls4.getD i4 0) / 2 ^ s)).getD i4 0) + (((ls4.set i4 ((ls4.getD i4 0) / 2 ^ s)).getD (i4 + 1) 0) * 2 ^ (32 - s) % 4294967296) ≤ 4294967295) (I (by omega : i4 < (limbs (valL out)).length) (I (by simp only [List.length_set]; omega : i4 < (ls4.set i4 ((ls4.getD i4 0) / 2 ^ s)).length) (I (show (i4 + 1) ≤ 1099511627776 by omega : Bnd (.nat .i64) (.n 1099511627776) (i4 + 1)) (And.intro (by first | exact hW.step1 (by omega) (by omega) (by omega) | exact hW.step2 (by omega) (by omega) : DownI (valL out) s ((limbs x).length + 1) (i4 + 1) ((ls4.set i4 ((ls4.getD i4 0) / 2 ^ s)).set i4 (((ls4.set i4 ((ls4.getD i4 0) / 2 ^ s)).getD i4 0) + (((ls4.set i4 ((ls4.getD i4 0) / 2 ^ s)).getD (i4 + 1) 0) * 2 ^ (32 - s) % 4294967296)))) (by omega : (limbs (valL out)).length - (i4 + 1) < (limbs (valL out)).length - i4)))))))))))))) (fun (h70 : ¬ (i4 + 1 < (limbs (valL out)).length)) => I (show (i4 + 1) ≤ 1099511627776 by omega : Bnd (.nat .i64) (.n 1099511627776) (i4 + 1)) (And.intro (by first | exact hW.step1 (by omega) (by omega) (by omega) | exact hW.step2 (by omega) (by omega) : DownI (valL out) s ((limbs x).length + 1) (i4 + 1) (ls4.set i4 ((ls4.getD i4 0) / 2 ^ s))) (by omega : (limbs (valL out)).length - (i4 + 1) < (limbs (valL out)).length - i4)))) (fun (h71 : ¬ (0 < s)) => I (show (i4 + 1) ≤ 1099511627776 by omega : Bnd (.nat .i64) (.n 1099511627776) (i4 + 1)) (And.intro (by first | exact hW.step1 (by omega) (by omega) (by omega) | exact hW.step2 (by omega) (by omega) : DownI (valL out) s ((limbs x).length + 1) (i4 + 1) (ls4.set i4 ((ls4.getD i4 0) / 2 ^ s))) (by omega : (limbs (valL out)).length - (i4 + 1) < (limbs (valL out)).length - i4)))))))))) (fun (h72 : ¬ (i4 < (limbs (valL out)).length)) => I (by omega : ((limbs x).length + 1) - m = ql.length) (I (by omega : (limbs (valL out)).length ≤ ls4.length) (have hFin := (DownI.fin' hW (by omega) rfl); I (hF.2.2.1 : ∀ u ∈ ql, u < 4294967296) (I (hFin.2 : ∀ u ∈ ls4.take ((limbs (valL out)).length), u < 4294967296) (And.intro (hF.1 : valL ql = x / y) (by rw [hFin.1, hF.2.1, Nat.mul_div_cancel _ (Nat.pow_pos (by omega))] : valL (ls4.take ((limbs (valL out)).length)) = x % y))))))))))))) ((limbs (y * 2 ^ s)).length) hV)))) (32 - bl ((limbs y).getD (((limbs y).length) - 1) 0)) rfl))))))⟩)
abbrev div_c : Ctr Tryz.prog := FI.c div_k
end Go.Proofs.YtcjgaaibflcdiaaGreat.Sx

namespace Go.Proofs.YtcjgaaibflcdiaaGreat.Sx
open Go Go.Proofs
set_option linter.unusedVariables false
set_option linter.unusedSimpArgs false
set_option maxRecDepth 20000
set_option maxHeartbeats 4000000
abbrev gcd_i : FI := ⟨157, [.mag, .mag], [(.n 1099511627776), (.n 1099511627776)], fun _ => [], fun b z => (fun (x : Nat) (y : Nat) => .c (.one (.dt .mag (.n (max (b0 b).nb (b1 b).nb)) (Nat.gcd x y)))) z.1 z.2⟩
theorem gcd_k : gcd_i.OK Tryz.prog := mkF hmix 61 Tryz.func157 rfl rfl (by decide) [(152, .c trimM_c), (158, .c div_c), (159, .c of_c), (163, .c cloneM_c), (196, .c nword_c)] (fun _ => rfl) (fun _ => rfl) (fun _ _ => rfl) (fun (x : Nat) (y : Nat) b hx hp => one_ok (lt2_gcd (Bnds.h2 hx).1.mag (Bnds.h2 hx).2.mag) rfl) (fun (x : Nat) (y : Nat) hx hp => by
 have hx0 : lt2 x 1099511627776 := hx.1
 have hl0 : (limbs x).length ≤ 34359738369 := limbs_len_le (Nat.le_of_lt hx0)
 have hx1 : lt2 y 1099511627776 := hx.2
 have hl1 : (limbs y).length ≤ 34359738369 := limbs_len_le (Nat.le_of_lt hx1)
 exact ⟨.loop [.s 5 .mag (.n 1099511627776), .s 6 .mag (.n 1099511627776)] (fun ((a, b) : Nat × Nat) => Nat.gcd a b = Nat.gcd x y) (fun ((a, b) : Nat × Nat) => b) (fun ((a, b) : Nat × Nat) => .cond (.nil) (.cond (.nil) (.cond (.loop [.s 13 (.nat .u64) (.n 18446744073709551615), .s 14 (.nat .u64) (.n 18446744073709551615)] (fun ((u, v) : Nat × Nat) => Nat.gcd u v = Nat.gcd x y) (fun ((u, v) : Nat × Nat) => v) (fun ((u, v) : Nat × Nat) => .nil)) (.loop [.s 13 (.nat .u64) (.n 18446744073709551615), .s 14 (.nat .u64) (.n 18446744073709551615)] (fun ((u, v) : Nat × Nat) => Nat.gcd u v = Nat.gcd x y) (fun ((u, v) : Nat × Nat) => v) (fun ((u, v) : Nat × Nat) => .nil))))), kcast (by kernel_rfl) (I (rfl : Nat.gcd x y = Nat.gcd x y) (fun (a : Nat) (b : Nat) (hb1 : HB [.s 5 .mag (.n 1099511627776), .s 6 .mag (.n 1099511627776)] (a, b)) (hC : Nat.gcd a b = Nat.gcd x y) => And.intro (fun (h2 : 2 < (limbs b).length) => have hb0 := (show 0 < b from Nat.pos_of_ne_zero (fun e => by have := nl0.2 e; omega)); I (hb0 : 0 < b) (And.intro ((gcd_step a b).trans hC : Nat.gcd b (a % b) = Nat.gcd x y) (Nat.mod_lt _ hb0 : a % b < b))) (fun (h3 : ¬ (2 < (limbs b).length)) => And.intro (fun (h4 : (limbs b).length = 0) => (by have e := nl0.1 (show (limbs b).length = 0 by omega); rw [e, Nat.gcd_zero_right] at hC; exact hC : a = Nat.gcd x y)) (fun (h5 : ¬ ((limbs b).length = 0)) => And.intro (fun (h6 : 2 < (limbs a).length) => have hb0 := (show 0 < b from Nat.pos_of_ne_zero (fun e => by have := nl0.2 e; omega)); I (hb0 : 0 < b) (I (by omega : (limbs b).length ≤ 2) (I (by first | omega | exact Nat.le_trans (nl_mono' (Nat.le_of_lt (Nat.mod_lt a hb0))) (by omega) : (limbs (a % b)).length ≤ 2) (I (by first | exact hC | exact (gcd_step a b).trans hC : Nat.gcd b (a % b) = Nat.gcd x y) (fun (u : Nat) (v : Nat) (hb7 : HB [.s 13 (.nat .u64) (.n 18446744073709551615), .s 14 (.nat .u64) (.n 18446744073709551615)] (u, v)) (hK : Nat.gcd u v = Nat.gcd x y) => have hv10 := (show u ≤ 18446744073709551615 from hb7.1); have hv11 := (show v ≤ 18446744073709551615 from hb7.2); And.intro (fun (h8 : v ≠ 0) => I (by omega : 0 < v) (And.intro ((gcd_step u v).trans hK : Nat.gcd v (u % v) = Nat.gcd x y) (Nat.mod_lt _ (by omega) : u % v < v))) (fun (h9 : ¬ (v ≠ 0)) => (by rw [show v = 0 by omega, Nat.gcd_zero_right] at hK; exact hK : u = Nat.gcd x y))))))) (fun (h12 : ¬ (2 < (limbs a).length)) => I (by omega : (limbs a).length ≤ 2) (I (by first | omega | exact Nat.le_trans (nl_mono' (Nat.le_of_lt (Nat.mod_lt a hb0))) (by omega) : (limbs b).length ≤ 2) (I (by first | exact hC | exact (gcd_step a b).trans hC : Nat.gcd a b = Nat.gcd x y) (fun (u : Nat) (v : Nat) (hb13 : HB [.s 13 (.nat .u64) (.n 18446744073709551615), .s 14 (.nat .u64) (.n 18446744073709551615)] (u, v)) (hK : Nat.gcd u v = Nat.gcd x y) => have hv16 := (show u ≤ 18446744073709551615 from hb13.1); have hv17 := (show v ≤ 18446744073709551615 from hb13.2); And.intro (fun (h14 : v ≠ 0) => I (by omega : 0 < v) (And.intro ((gcd_step u v).trans hK : Nat.gcd v (u % v) = Nat.gcd x y) (Nat.mod_lt _ (by omega) : u % v < v))) (fun (h15 : ¬ (v ≠ 0)) => (by rw [show v = 0 by omega, Nat.gcd_zero_right] at hK; exact hK : u = Nat.gcd x y))))))))))⟩)
abbrev gcd_c : Ctr Tryz.prog := FI.c gcd_k
end Go.Proofs.YtcjgaaibflcdiaaGreat.Sx

namespace Go.Proofs.YtcjgaaibflcdiaaGreat.Sx
open Go Go.Proofs
set_option linter.unusedVariables false
set_option linter.unusedSimpArgs false
set_option maxRecDepth 20000
set_option maxHeartbeats 4000000
abbrev rone_i : FI := ⟨100, [], [], fun _ => [], fun b z => .c (.one (.dt .mag (.n (1)) (1)))⟩
theorem rone_k : rone_i.OK Tryz.prog := mkF hmix 2 Tryz.func100 rfl rfl (by decide) [] (fun _ => rfl) (fun _ => rfl) (fun _ _ => rfl) (fun  b hx hp => one_ok (lt2_lit rfl) rfl) (fun  hx hp => by
 exact ⟨.h 1 0 (.mk (.im (.nat .u32) (.n 4294967295))) (.h 1 1 (.mag 1 1) (.nil)), kcast (by kernel_rfl) (I (limbs_one.symm : [1] = limbs 1) (I (lt2_lit rfl : lt2 1 1) ((Eq.refl 1))))⟩)
abbrev rone_c : Ctr Tryz.prog := FI.c rone_k
abbrev rsize_i : FI := ⟨99, [(.int .i64)], [(.n 9223372036854775807)], fun _ => [], fun b z => (fun (v : Int) => .c (.one (.dt .mag (.n (Nat.log2 (b0 b).nb + 1)) (v.natAbs)))) z⟩
theorem rsize_k : rsize_i.OK Tryz.prog := mkF hmix 12 Tryz.func99 rfl rfl (by decide) [(159, .c of_c)] (fun _ => rfl) (fun _ => rfl) (fun _ _ => rfl) (fun (v : Int) b hx hp => one_ok (lt2_log (Bnds.h1 hx).int) rfl) (fun (v : Int) hx hp => by
 have hx0 : Int.natAbs v ≤ 9223372036854775807 := hx
 exact ⟨.cond (.dead) (.h 3 4 (.i (.n v.natAbs 9223372036854775807)) (.nil)), kcast (by kernel_rfl) (And.intro (fun (h1 : v = (-9223372036854775808)) => (by omega : False)) (fun (h2 : ¬ (v = (-9223372036854775808))) => I (by rw [show max v (-v) = ((v.natAbs : Nat) : Int) by omega]; exact wrapN_u64 (by omega) : IntKind.wrap .u64 (max v (-v)) = ((v.natAbs : Nat) : Int)) (I (by omega : v.natAbs ≤ 9223372036854775807) ((Eq.refl v.natAbs)))))⟩)
abbrev rsize_c : Ctr Tryz.prog := FI.c rsize_k
abbrev rden_i : FI := ⟨98, [.rat], [(.n 1099511627776)], fun _ => [], fun b z => (fun (x : Rat) => .c (.one (.dt .mag (.n ((b0 b).nb + 1)) (x.den)))) z⟩
theorem rden_k : rden_i.OK Tryz.prog := mkF hmix 10 Tryz.func98 rfl rfl (by decide) [(100, .c rone_c)] (fun _ => rfl) (fun _ => rfl) (fun _ _ => rfl) (fun (x : Rat) b hx hp => one_ok (le2_lt2 (Bnds.h1 hx).rat.2) rfl) (fun (x : Rat) hx hp => by
 have hx0 : Bnd .rat (.n 1099511627776) x := hx
 exact ⟨.cond (.nil) (.h 3 2 (.mag x.den 1099511627777) (.nil)), kcast (by kernel_rfl) (And.intro (fun (h1 : (denL x.den).length = 0) => ((denL_one x.den_nz (by omega)).symm : 1 = x.den)) (fun (h2 : ¬ ((denL x.den).length = 0)) => I (denL_limbs (by omega) : denL x.den = limbs x.den) (I (le2_lt2 hx0.2 : lt2 x.den 1099511627777) ((Eq.refl x.den)))))⟩)
abbrev rden_c : Ctr Tryz.prog := FI.c rden_k
abbrev rdiv_i : FI := ⟨155, [(.nat .u64), (.nat .u64)], [(.n 18446744073709551615), (.n 18446744073709551615)], fun _ => [], fun b z => (fun (n : Nat) (d : Nat) => .c (.one (.dt (.nat .u64) (.n (max (b0 b).nb (b1 b).nb)) (Nat.gcd n d)))) z.1 z.2⟩
theorem rdiv_k : rdiv_i.OK Tryz.prog := mkF hmix 12 Tryz.func155 rfl rfl (by decide) [] (fun _ => rfl) (fun _ => rfl) (fun _ _ => rfl) (fun (n : Nat) (d : Nat) b hx hp => one_ok (gcd_max (Bnds.h2 hx).1.nat (Bnds.h2 hx).2.nat) rfl) (fun (n : Nat) (d : Nat) hx hp => by
 have hx0 : n ≤ 18446744073709551615 := hx.1
 have hx1 : d ≤ 18446744073709551615 := hx.2
 exact ⟨.loop [.s 0 (.nat .u64) (.n 18446744073709551615), .s 1 (.nat .u64) (.n 18446744073709551615)] (fun ((u, v) : Nat × Nat) => Nat.gcd u v = Nat.gcd n d) (fun ((u, v) : Nat × Nat) => v) (fun ((u, v) : Nat × Nat) => .nil), kcast (by kernel_rfl) (I (rfl : Nat.gcd n d = Nat.gcd n d) (fun (u : Nat) (v : Nat) (hb1 : HB [.s 0 (.nat .u64) (.n 18446744073709551615), .s 1 (.nat .u64) (.n 18446744073709551615)] (u, v)) (hK : Nat.gcd u v = Nat.gcd n d) => have hv4 := (show u ≤ 18446744073709551615 from hb1.1); have hv5 := (show v ≤ 18446744073709551615 from hb1.2); And.intro (fun (h2 : v ≠ 0) => I (by omega : 0 < v) (And.intro ((gcd_step u v).trans hK : Nat.gcd v (u % v) = Nat.gcd n d) (Nat.mod_lt _ (by omega) : u % v < v))) (fun (h3 : ¬ (v ≠ 0)) => (by rw [show v = 0 by omega, Nat.gcd_zero_right] at hK; exact hK : u = Nat.gcd n d))))⟩)
abbrev rdiv_c : Ctr Tryz.prog := FI.c rdiv_k
abbrev rlimbs_i : FV := ⟨156, false, (.nat .u32), (.n 4294967295), 1099511627776, [(.nat .u64)], [(.n 18446744073709551615)], fun l lo n cap z => (fun (v : Nat) => [2 ≤ n, lo + 2 ≤ l.length, v ≤ 18446744073709551615]) z, fun k b l lo n cap z => (fun (v : Nat) => .c (.one (.dt (.nat .i64) (.n 2) (nlw v)))) z, fun l lo n cap z => (fun (v : Nat) => putW l lo v) z⟩
theorem rlimbs_k : rlimbs_i.OK Tryz.prog := mkSl hmix 17 Tryz.func156 rfl rfl (by decide) [] (fun _ => rfl) (fun _ _ _ _ _ => rfl) (fun _ _ _ _ _ _ _ => rfl) (fun _ _ _ _ _ _ => rfl) (fun (l : List Nat) (lo n cap : Nat) (v : Nat) k b hx hs hn (hm : n ≤ 1099511627776) hp => ⟨one_ok (nlw_le v).2 rfl, putW_bnd (hp _ (List.mem_cons_of_mem _ (List.mem_cons_of_mem _ List.mem_cons_self))) hs⟩) (fun (l : List Nat) (lo n cap : Nat) (v : Nat) hs hx hn (hm : n ≤ 1099511627776) hp => by
 have hx0 : v ≤ 18446744073709551615 := hx
 have hp0 : 2 ≤ n := hp _ (List.mem_cons_self)
 have hp1 : lo + 2 ≤ l.length := hp _ (List.mem_cons_of_mem _ (List.mem_cons_self))
 have hp2 : v ≤ 18446744073709551615 := hp _ (List.mem_cons_of_mem _ (List.mem_cons_of_mem _ (List.mem_cons_self)))
 exact ⟨.nil, kcast (by kernel_rfl) (I (by omega : 0 < n) (I (by omega : lo + 0 < l.length) (And.intro (fun (h1 : v / 2 ^ 32 = 0) => And.intro (by rw [putW, if_pos (by assumption)] : l.set (lo + 0) (v % 4294967296) = putW l lo v) ((by rw [nlw, if_pos (by assumption)] : 1 = nlw v))) (fun (h2 : ¬ (v / 2 ^ 32 = 0)) => I (by omega : 1 < n) (I (by simp only [List.length_set]; omega : lo + 1 < (l.set (lo + 0) (v % 4294967296)).length) (And.intro (by rw [putW, if_neg (by assumption)] : (l.set (lo + 0) (v % 4294967296)).set (lo + 1) (v / 2 ^ 32) = putW l lo v) ((by rw [nlw, if_neg (by assumption)] : 2 = nlw v))))))))⟩)
abbrev rlimbs_c : CtrS Tryz.prog := FV.c rlimbs_k
end Go.Proofs.YtcjgaaibflcdiaaGreat.Sx

namespace Go.Proofs.YtcjgaaibflcdiaaGreat.Sx
open Go Go.Proofs
set_option linter.unusedVariables false
set_option linter.unusedSimpArgs false
set_option maxRecDepth 20000
set_option maxHeartbeats 4000000
abbrev short_i : FI := ⟨95, [.bool, (.nat .u64), (.nat .u64)], [.u, (.n 18446744073709551615), (.n 18446744073709551615)], fun z => (fun (neg : Bool) (n : Nat) (d : Nat) => [0 < d]) z.1 z.2.1 z.2.2, fun b z => (fun (neg : Bool) (n : Nat) (d : Nat) => .c (.agg [.dt .rat (.n (max (Nat.log2 (b1 b).nb + 1) (Nat.log2 (b2 b).nb + 1))) (sgQ neg n d)])) z.1 z.2.1 z.2.2⟩
theorem short_k : short_i.OK Tryz.prog := mkF hmix 50 Tryz.func95 rfl rfl (by decide) [(155, .c rdiv_c), (156, .s rlimbs_c)] (fun _ => rfl) (fun _ => rfl) (fun _ _ => rfl) (fun (neg : Bool) (n : Nat) (d : Nat) b hx hp => agg_rat (sgQ_bnd (lt2_mono (Nat.le_max_left _ _) (lt2_log (Bnds.h3 hx).2.1.nat)) (lt2_le2 (lt2_mono (Nat.le_max_right _ _) (lt2_log (Bnds.h3 hx).2.2.nat))) (hp _ List.mem_cons_self))) (fun (neg : Bool) (n : Nat) (d : Nat) hx hp => by
 have hx1 : n ≤ 18446744073709551615 := hx.2.1
 have hx2 : d ≤ 18446744073709551615 := hx.2.2
 have hp0 : 0 < d := hp _ (List.mem_cons_self)
 exact ⟨.cond (.nil) ((fun (g : Nat) => (fun (n1 : Nat) => (fun (d1 : Nat) => .h 5 0 (.mk (.arr (.nat .u32) (.n 4294967295))) ((fun (a : Nat) => .cond ((fun (b : Nat) => .pre 11 (.frz 24 false []) (.h 11 0 (.rat (sgQ neg n d) 64) (.nil))) (a + (nlw d1))) (.pre 11 (.frz 24 false []) (.h 11 0 (.rat (sgQ neg n d) 64) (.nil)))) (nlw n1))) (d / g)) (n / g)) (Nat.gcd n d)), kcast (by kernel_rfl) (And.intro (fun (h1 : n = 0) => (by rw [show n = 0 by omega, sgQ_zero] : 0 = sgQ neg n d)) (fun (h2 : ¬ (n = 0)) => (fun (g : Nat) (hg : g = Nat.gcd n d) => have hg0 := (show 0 < g from hg ▸ Nat.gcd_pos_of_pos_right _ hp0); I (by omega : 0 < g) (I (by omega : 0 < g) ((fun (n1 : Nat) (hn1 : n1 = n / g) => (fun (d1 : Nat) (hd1 : d1 = d / g) => have hn0 := (show 0 < n1 from by rw [hn1, hg]; exact Nat.div_pos (Nat.gcd_le_left _ (by omega)) (hg ▸ hg0)); have hd0 := (show 0 < d1 from by rw [hd1, hg]; exact Nat.div_pos (Nat.gcd_le_right _ (by omega)) (hg ▸ hg0)); have hn9 := (show n1 ≤ 18446744073709551615 from by rw [hn1]; exact Nat.le_trans (Nat.div_le_self _ _) hx1); have hd9 := (show d1 ≤ 18446744073709551615 from by rw [hd1]; exact Nat.le_trans (Nat.div_le_self _ _) hx2); I (by omega : 2 ≤ 4) (I (by simp : 0 + 2 ≤ (List.replicate 4 (0 : Nat)).length) (I (by omega : n1 ≤ 18446744073709551615) ((fun (a : Nat) (ha : a = nlw n1) => have ha1 := (show 1 ≤ a ∧ a ≤ 2 from by rw [ha]; exact nlw_le n1); have hL := (show (putW (List.replicate 4 (0 : Nat)) 0 n1).length = 4 from putW_len _ _ _); I (by omega : a ≤ 4) (I (by omega : a = a) (And.intro (fun (h3 : 1 < d1) => I (by omega : a ≤ 4) (I (by omega : a < 4) (I (by omega : 2 ≤ 4 - a) (I (by omega : a + 2 ≤ (putW (List.replicate 4 (0 : Nat)) 0 n1).length) (I (by omega : d1 ≤ 18446744073709551615) ((fun (b : Nat) (hb : b = a + (nlw d1)) => have hb1 := nlw_le d1; have hL2 := (show (putW (putW (List.replicate 4 (0 : Nat)) 0 n1) a d1).length = 4 from (putW_len _ _ _).trans hL); I (by omega : a < b) (I (by omega : b ≤ 4) (I (by omega : b = b) (I (by omega : a ≤ (putW (putW (List.replicate 4 (0 : Nat)) 0 n1) a d1).length) (I (by omega : a + (b - a) ≤ (putW (putW (List.replicate 4 (0 : Nat)) 0 n1) a d1).length) (I ((sgQ_neg (by omega) hp0).symm : neg = decide ((sgQ neg n d).num < 0)) (I (by rw [sgQ_abs hp0, ← hg, ← hn1]; subst ha; first | exact short_n2 hn0 hn9 | exact short_n hn0 hn9 : (putW (putW (List.replicate 4 (0 : Nat)) 0 n1) a d1).take a = limbs ((sgQ neg n d).num.natAbs)) (I (by rw [(sgQ_norm hp0).2, ← hg, ← hd1, denL, if_neg (by omega)]; subst hb ha; exact short_d hd0 hd9 : ((putW (putW (List.replicate 4 (0 : Nat)) 0 n1) a d1).drop a).take (b - a) = denL (sgQ neg n d).den) (I (by rw [sgQ_abs hp0, ← hg, ← hn1]; exact Nat.lt_of_le_of_lt hn9 (by decide) : lt2 (sgQ neg n d).num.natAbs 64) (I (by rw [(sgQ_norm hp0).2, ← hg, ← hd1]; exact Nat.le_trans hd9 (by decide) : le2 (sgQ neg n d).den 64) ((Eq.refl (sgQ neg n d))))))))))))) (a + (nlw d1)) rfl)))))) (fun (h4 : ¬ (1 < d1)) => I (by omega : a ≤ (putW (List.replicate 4 (0 : Nat)) 0 n1).length) (I ((sgQ_neg (by omega) hp0).symm : neg = decide ((sgQ neg n d).num < 0)) (I (by rw [sgQ_abs hp0, ← hg, ← hn1]; subst ha; first | exact short_n2 hn0 hn9 | exact short_n hn0 hn9 : (putW (List.replicate 4 (0 : Nat)) 0 n1).take a = limbs ((sgQ neg n d).num.natAbs)) (I (by rw [(sgQ_norm hp0).2, ← hg, ← hd1]; omega : (sgQ neg n d).den = 1) (I (by rw [sgQ_abs hp0, ← hg, ← hn1]; exact Nat.lt_of_le_of_lt hn9 (by decide) : lt2 (sgQ neg n d).num.natAbs 64) (I (by rw [(sgQ_norm hp0).2, ← hg, ← hd1]; exact Nat.le_trans hd9 (by decide) : le2 (sgQ neg n d).den 64) ((Eq.refl (sgQ neg n d)))))))))))) (nlw n1) rfl)))) (d / g) rfl) (n / g) rfl))) (Nat.gcd n d) rfl))⟩)
abbrev short_c : Ctr Tryz.prog := FI.c short_k
end Go.Proofs.YtcjgaaibflcdiaaGreat.Sx

namespace Go.Proofs.YtcjgaaibflcdiaaGreat.Sx
open Go Go.Proofs
set_option linter.unusedVariables false
set_option linter.unusedSimpArgs false
set_option maxRecDepth 20000
set_option maxHeartbeats 4000000
abbrev parts_i : FI := ⟨94, [.rat], [(.n 1099511627776)], fun _ => [], fun b z => (fun (x : Rat) => .tup [.one (.dt (.nat .u64) (.n 4294967295) (pn x)), .one (.dt (.nat .u64) (.n 4294967295) (pd x)), .one (.dt .bool .u (pb x))]) z⟩
theorem parts_k : parts_i.OK Tryz.prog := mkF hmix 30 Tryz.func94 rfl rfl (by decide) [(154, .c rword_c)] (fun _ => rfl) (fun _ => rfl) (fun _ _ => rfl) (fun (x : Rat) b hx hp => tup_cons (one_ok (pn_le x) rfl) (tup_cons (one_ok (pd_le x) rfl) (tup_cons (one_ok trivial rfl) tup_nil))) (fun (x : Rat) hx hp => by
 exact ⟨.nil, kcast (by kernel_rfl) (And.intro (fun (h1 : 1 < (limbs x.num.natAbs).length) => And.intro ((p_big (by first | exact .inl (by assumption) | exact .inr (by assumption))).1 : 0 = pn x) (And.intro ((p_big (by first | exact .inl (by assumption) | exact .inr (by assumption))).2.1 : 0 = pd x) ((p_big (by first | exact .inl (by assumption) | exact .inr (by assumption))).2.2 : false = pb x))) (fun (h2 : ¬ (1 < (limbs x.num.natAbs).length)) => And.intro (fun (h3 : 1 < (denL x.den).length) => And.intro ((p_big (by first | exact .inl (by assumption) | exact .inr (by assumption))).1 : 0 = pn x) (And.intro ((p_big (by first | exact .inl (by assumption) | exact .inr (by assumption))).2.1 : 0 = pd x) ((p_big (by first | exact .inl (by assumption) | exact .inr (by assumption))).2.2 : false = pb x))) (fun (h4 : ¬ (1 < (denL x.den).length)) => have hs := p_sm (x := x) (by unfold bigQ; omega); And.intro (fun (h5 : (denL x.den).length = 1) => I (by omega : 0 < (denL x.den).length) (I (by omega : (limbs x.num.natAbs).length ≤ 2) (And.intro (hs.1 : x.num.natAbs = pn x) (And.intro (by have := hs.2.1; have := @denL_1 x.den (by omega); omega : (denL x.den).getD 0 0 = pd x) (by rw [hs.2.2]; have := @denL_1 x.den (by omega); have := x.den_nz; exact decide_eq_true (by omega) : decide ((denL x.den).getD 0 0 ≠ 0) = pb x))))) (fun (h6 : ¬ ((denL x.den).length = 1)) => I (by omega : (limbs x.num.natAbs).length ≤ 2) (And.intro (hs.1 : x.num.natAbs = pn x) (And.intro (by rw [← hs.2.1]; exact (denL_one x.den_nz (by omega)).symm : 1 = pd x) (by rw [hs.2.2] : true = pb x)))))))⟩)
abbrev parts_c : Ctr Tryz.prog := FI.c parts_k
abbrev reduce_i : FI := ⟨96, [.bool, .mag, .mag], [.u, (.n 1099511627776), (.n 1099511627776)], fun _ => [], fun b z => (fun (neg : Bool) (n : Nat) (d : Nat) => .c (.agg [.dt .rat (.n (max (b1 b).nb (b2 b).nb)) (sgQ neg n d)])) z.1 z.2.1 z.2.2⟩
theorem reduce_k : reduce_i.OK Tryz.prog := mkF hmix 68 Tryz.func96 rfl rfl (by decide) [(93, .c bits_c), (95, .c short_c), (150, .c add_c), (154, .c rword_c), (157, .c gcd_c), (158, .c div_c)] (fun _ => rfl) (fun _ => rfl) (fun _ _ => rfl) (fun (neg : Bool) (n : Nat) (d : Nat) b hx hp => agg_rat (sgQ_bnd0 (lt2_mono (Nat.le_max_left _ _) (Bnds.h3 hx).2.1.mag) (lt2_mono (Nat.le_max_right _ _) (Bnds.h3 hx).2.2.mag))) (fun (neg : Bool) (n : Nat) (d : Nat) hx hp => by
 have hx1 : lt2 n 1099511627776 := hx.2.1
 have hl1 : (limbs n).length ≤ 34359738369 := limbs_len_le (Nat.le_of_lt hx1)
 have hx2 : lt2 d 1099511627776 := hx.2.2
 have hl2 : (limbs d).length ≤ 34359738369 := limbs_len_le (Nat.le_of_lt hx2)
 exact ⟨.cond (.nil) (.cond (.nil) (.cond (.cond (.nil) ((fun (g : Nat) => .cond (.cond (.cond (.h 12 3 (.rat (sgQ neg n d) 1099511627776) (.nil)) (.h 12 3 (.rat (sgQ neg n d) 1099511627776) (.nil))) (.h 12 3 (.rat (sgQ neg n d) 1099511627776) (.nil))) (.cond (.cond (.h 12 3 (.rat (sgQ neg n d) 1099511627776) (.nil)) (.h 12 3 (.rat (sgQ neg n d) 1099511627776) (.nil))) (.h 12 3 (.rat (sgQ neg n d) 1099511627776) (.nil)))) (Nat.gcd n d))) ((fun (g : Nat) => .cond (.cond (.cond (.h 12 3 (.rat (sgQ neg n d) 1099511627776) (.nil)) (.h 12 3 (.rat (sgQ neg n d) 1099511627776) (.nil))) (.h 12 3 (.rat (sgQ neg n d) 1099511627776) (.nil))) (.cond (.cond (.h 12 3 (.rat (sgQ neg n d) 1099511627776) (.nil)) (.h 12 3 (.rat (sgQ neg n d) 1099511627776) (.nil))) (.h 12 3 (.rat (sgQ neg n d) 1099511627776) (.nil)))) (Nat.gcd n d)))), kcast (by kernel_rfl) (And.intro (fun (h1 : bl n = 0) => (by first | rw [bl_eq0.1 (show bl n = 0 by omega), sgQ_zero] | rw [bl_eq0.1 (show bl d = 0 by omega), sgQ_d0] : 0 = sgQ neg n d)) (fun (h2 : ¬ (bl n = 0)) => And.intro (fun (h3 : bl d = 0) => (by first | rw [bl_eq0.1 (show bl n = 0 by omega), sgQ_zero] | rw [bl_eq0.1 (show bl d = 0 by omega), sgQ_d0] : 0 = sgQ neg n d)) (fun (h4 : ¬ (bl d = 0)) => have hn0 := (show 0 < n from Nat.pos_of_ne_zero (mt bl_eq0.2 (by omega))); have hd0 := (show 0 < d from Nat.pos_of_ne_zero (mt bl_eq0.2 (by omega))); And.intro (fun (h5 : (limbs n).length ≤ 2) => And.intro (fun (h6 : (limbs d).length ≤ 2) => I (by omega : (limbs n).length ≤ 2) (I (by omega : (limbs d).length ≤ 2) (I (by omega : 0 < d) ((Eq.refl (sgQ neg n d)))))) (fun (h7 : ¬ ((limbs d).length ≤ 2)) => (fun (g : Nat) (hg : g = Nat.gcd n d) => have hg0 := (show 0 < g from hg ▸ Nat.gcd_pos_of_pos_right _ hd0); And.intro (fun (h8 : 1 < bl g) => I (by omega : 0 < g) (I (by omega : 0 < g) (And.intro (fun (h9 : (limbs ((d / g) + 0)).length = 1) => I (by omega : 0 < (limbs ((d / g) + 0)).length) (And.intro (fun (h10 : (limbs ((d / g) + 0)).getD 0 0 = 1) => I ((sgQ_neg hn0 hd0).symm : neg = decide ((sgQ neg n d).num < 0)) (I (by rw [sgQ_abs hd0, ← hg]; first | rfl | rw [hg1, Nat.div_one]; rfl : (n / g) + 0 = (sgQ neg n d).num.natAbs) (I (by rw [(sgQ_norm hd0).2, ← hg]; first | exact one_of (by omega) (by omega) | (rw [hg1, Nat.div_one]; exact one_of (by omega) (by omega)) : (sgQ neg n d).den = 1) (I ((sgQ_bnd (p := 1099511627776) (lt2_mono (by decide) hx1) (lt2_le2 (lt2_mono (by decide) hx2)) hd0).1 : lt2 (sgQ neg n d).num.natAbs 1099511627776) (I ((sgQ_bnd (p := 1099511627776) (lt2_mono (by decide) hx1) (lt2_le2 (lt2_mono (by decide) hx2)) hd0).2 : le2 (sgQ neg n d).den 1099511627776) ((Eq.refl (sgQ neg n d)))))))) (fun (h11 : ¬ ((limbs ((d / g) + 0)).getD 0 0 = 1)) => I ((sgQ_neg hn0 hd0).symm : neg = decide ((sgQ neg n d).num < 0)) (I (by rw [sgQ_abs hd0, ← hg]; first | rfl | rw [hg1, Nat.div_one]; rfl : (n / g) + 0 = (sgQ neg n d).num.natAbs) (I (red_den (by rw [(sgQ_norm hd0).2, ← hg]; first | rfl | rw [hg1, Nat.div_one]; rfl) (by omega) : limbs ((d / g) + 0) = denL (sgQ neg n d).den) (I ((sgQ_bnd (p := 1099511627776) (lt2_mono (by decide) hx1) (lt2_le2 (lt2_mono (by decide) hx2)) hd0).1 : lt2 (sgQ neg n d).num.natAbs 1099511627776) (I ((sgQ_bnd (p := 1099511627776) (lt2_mono (by decide) hx1) (lt2_le2 (lt2_mono (by decide) hx2)) hd0).2 : le2 (sgQ neg n d).den 1099511627776) ((Eq.refl (sgQ neg n d)))))))))) (fun (h12 : ¬ ((limbs ((d / g) + 0)).length = 1)) => I ((sgQ_neg hn0 hd0).symm : neg = decide ((sgQ neg n d).num < 0)) (I (by rw [sgQ_abs hd0, ← hg]; first | rfl | rw [hg1, Nat.div_one]; rfl : (n / g) + 0 = (sgQ neg n d).num.natAbs) (I (red_den (by rw [(sgQ_norm hd0).2, ← hg]; first | rfl | rw [hg1, Nat.div_one]; rfl) (by omega) : limbs ((d / g) + 0) = denL (sgQ neg n d).den) (I ((sgQ_bnd (p := 1099511627776) (lt2_mono (by decide) hx1) (lt2_le2 (lt2_mono (by decide) hx2)) hd0).1 : lt2 (sgQ neg n d).num.natAbs 1099511627776) (I ((sgQ_bnd (p := 1099511627776) (lt2_mono (by decide) hx1) (lt2_le2 (lt2_mono (by decide) hx2)) hd0).2 : le2 (sgQ neg n d).den 1099511627776) ((Eq.refl (sgQ neg n d))))))))))) (fun (h13 : ¬ (1 < bl g)) => have hg1 := (bl_one hg0 (by omega) : g = 1); And.intro (fun (h14 : (limbs (d + 0)).length = 1) => I (by omega : 0 < (limbs (d + 0)).length) (And.intro (fun (h15 : (limbs (d + 0)).getD 0 0 = 1) => I ((sgQ_neg hn0 hd0).symm : neg = decide ((sgQ neg n d).num < 0)) (I (by rw [sgQ_abs hd0, ← hg]; first | rfl | rw [hg1, Nat.div_one]; rfl : n + 0 = (sgQ neg n d).num.natAbs) (I (by rw [(sgQ_norm hd0).2, ← hg]; first | exact one_of (by omega) (by omega) | (rw [hg1, Nat.div_one]; exact one_of (by omega) (by omega)) : (sgQ neg n d).den = 1) (I ((sgQ_bnd (p := 1099511627776) (lt2_mono (by decide) hx1) (lt2_le2 (lt2_mono (by decide) hx2)) hd0).1 : lt2 (sgQ neg n d).num.natAbs 1099511627776) (I ((sgQ_bnd (p := 1099511627776) (lt2_mono (by decide) hx1) (lt2_le2 (lt2_mono (by decide) hx2)) hd0).2 : le2 (sgQ neg n d).den 1099511627776) ((Eq.refl (sgQ neg n d)))))))) (fun (h16 : ¬ ((limbs (d + 0)).getD 0 0 = 1)) => I ((sgQ_neg hn0 hd0).symm : neg = decide ((sgQ neg n d).num < 0)) (I (by rw [sgQ_abs hd0, ← hg]; first | rfl | rw [hg1, Nat.div_one]; rfl : n + 0 = (sgQ neg n d).num.natAbs) (I (red_den (by rw [(sgQ_norm hd0).2, ← hg]; first | rfl | rw [hg1, Nat.div_one]; rfl) (by omega) : limbs (d + 0) = denL (sgQ neg n d).den) (I ((sgQ_bnd (p := 1099511627776) (lt2_mono (by decide) hx1) (lt2_le2 (lt2_mono (by decide) hx2)) hd0).1 : lt2 (sgQ neg n d).num.natAbs 1099511627776) (I ((sgQ_bnd (p := 1099511627776) (lt2_mono (by decide) hx1) (lt2_le2 (lt2_mono (by decide) hx2)) hd0).2 : le2 (sgQ neg n d).den 1099511627776) ((Eq.refl (sgQ neg n d)))))))))) (fun (h17 : ¬ ((limbs (d + 0)).length = 1)) => I ((sgQ_neg hn0 hd0).symm : neg = decide ((sgQ neg n d).num < 0)) (I (by rw [sgQ_abs hd0, ← hg]; first | rfl | rw [hg1, Nat.div_one]; rfl : n + 0 = (sgQ neg n d).num.natAbs) (I (red_den (by rw [(sgQ_norm hd0).2, ← hg]; first | rfl | rw [hg1, Nat.div_one]; rfl) (by omega) : limbs (d + 0) = denL (sgQ neg n d).den) (I ((sgQ_bnd (p := 1099511627776) (lt2_mono (by decide) hx1) (lt2_le2 (lt2_mono (by decide) hx2)) hd0).1 : lt2 (sgQ neg n d).num.natAbs 1099511627776) (I ((sgQ_bnd (p := 1099511627776) (lt2_mono (by decide) hx1) (lt2_le2 (lt2_mono (by decide) hx2)) hd0).2 : le2 (sgQ neg n d).den 1099511627776) ((Eq.refl (sgQ neg n d)))))))))) (Nat.gcd n d) rfl)) (fun (h18 : ¬ ((limbs n).length ≤ 2)) => (fun (g : Nat) (hg : g = Nat.gcd n d) => have hg0 := (show 0 < g from hg ▸ Nat.gcd_pos_of_pos_right _ hd0); And.intro (fun (h19 : 1 < bl g) => I (by omega : 0 < g) (I (by omega : 0 < g) (And.intro (fun (h20 : (limbs ((d / g) + 0)).length = 1) => I (by omega : 0 < (limbs ((d / g) + 0)).length) (And.intro (fun (h21 : (limbs ((d / g) + 0)).getD 0 0 = 1) => I ((sgQ_neg hn0 hd0).symm : neg = decide ((sgQ neg n d).num < 0)) (I (by rw [sgQ_abs hd0, ← hg]; first | rfl | rw [hg1, Nat.div_one]; rfl : (n / g) + 0 = (sgQ neg n d).num.natAbs) (I (by rw [(sgQ_norm hd0).2, ← hg]; first | exact one_of (by omega) (by omega) | (rw [hg1, Nat.div_one]; exact one_of (by omega) (by omega)) : (sgQ neg n d).den = 1) (I ((sgQ_bnd (p := 1099511627776) (lt2_mono (by decide) hx1) (lt2_le2 (lt2_mono (by decide) hx2)) hd0).1 : lt2 (sgQ neg n d).num.natAbs 1099511627776) (I ((sgQ_bnd (p := 1099511627776) (lt2_mono (by decide) hx1) (lt2_le2 (lt2_mono (by decide) hx2)) hd0).2 : le2 (sgQ neg n d).den 1099511627776) ((Eq.refl (sgQ neg n d)))))))) (fun (h22 : ¬ ((limbs ((d / g) + 0)).getD 0 0 = 1)) => I ((sgQ_neg hn0 hd0).symm : neg = decide ((sgQ neg n d).num < 0)) (I (by rw [sgQ_abs hd0, ← hg]; first | rfl | rw [hg1, Nat.div_one]; rfl : (n / g) + 0 = (sgQ neg n d).num.natAbs) (I (red_den (by rw [(sgQ_norm hd0).2, ← hg]; first | rfl | rw [hg1, Nat.div_one]; rfl) (by omega) : limbs ((d / g) + 0) = denL (sgQ neg n d).den) (I ((sgQ_bnd (p := 1099511627776) (lt2_mono (by decide) hx1) (lt2_le2 (lt2_mono (by decide) hx2)) hd0).1 : lt2 (sgQ neg n d).num.natAbs 1099511627776) (I ((sgQ_bnd (p := 1099511627776) (lt2_mono (by decide) hx1) (lt2_le2 (lt2_mono (by decide) hx2)) hd0).2 : le2 (sgQ neg n d).den 1099511627776) ((Eq.refl (sgQ neg n d)))))))))) (fun (h23 : ¬ ((limbs ((d / g) + 0)).length = 1)) => I ((sgQ_neg hn0 hd0).symm : neg = decide ((sgQ neg n d).num < 0)) (I (by rw [sgQ_abs hd0, ← hg]; first | rfl | rw [hg1, Nat.div_one]; rfl : (n / g) + 0 = (sgQ neg n d).num.natAbs) (I (red_den (by rw [(sgQ_norm hd0).2, ← hg]; first | rfl | rw [hg1, Nat.div_one]; rfl) (by omega) : limbs ((d / g) + 0) = denL (sgQ neg n d).den) (I ((sgQ_bnd (p := 1099511627776) (lt2_mono (by decide) hx1) (lt2_le2 (lt2_mono (by decide) hx2)) hd0).1 : lt2 (sgQ neg n d).num.natAbs 1099511627776) (I ((sgQ_bnd (p := 1099511627776) (lt2_mono (by decide) hx1) (lt2_le2 (lt2_mono (by decide) hx2)) hd0).2 : le2 (sgQ neg n d).den 1099511627776) ((Eq.refl (sgQ neg n d))))))))))) (fun (h24 : ¬ (1 < bl g)) => have hg1 := (bl_one hg0 (by omega) : g = 1); And.intro (fun (h25 : (limbs (d + 0)).length = 1) => I (by omega : 0 < (limbs (d + 0)).length) (And.intro (fun (h26 : (limbs (d + 0)).getD 0 0 = 1) => I ((sgQ_neg hn0 hd0).symm : neg = decide ((sgQ neg n d).num < 0)) (I (by rw [sgQ_abs hd0, ← hg]; first | rfl | rw [hg1, Nat.div_one]; rfl : n + 0 = (sgQ neg n d).num.natAbs) (I (by rw [(sgQ_norm hd0).2, ← hg]; first | exact one_of (by omega) (by omega) | (rw [hg1, Nat.div_one]; exact one_of (by omega) (by omega)) : (sgQ neg n d).den = 1) (I ((sgQ_bnd (p := 1099511627776) (lt2_mono (by decide) hx1) (lt2_le2 (lt2_mono (by decide) hx2)) hd0).1 : lt2 (sgQ neg n d).num.natAbs 1099511627776) (I ((sgQ_bnd (p := 1099511627776) (lt2_mono (by decide) hx1) (lt2_le2 (lt2_mono (by decide) hx2)) hd0).2 : le2 (sgQ neg n d).den 1099511627776) ((Eq.refl (sgQ neg n d)))))))) (fun (h27 : ¬ ((limbs (d + 0)).getD 0 0 = 1)) => I ((sgQ_neg hn0 hd0).symm : neg = decide ((sgQ neg n d).num < 0)) (I (by rw [sgQ_abs hd0, ← hg]; first | rfl | rw [hg1, Nat.div_one]; rfl : n + 0 = (sgQ neg n d).num.natAbs) (I (red_den (by rw [(sgQ_norm hd0).2, ← hg]; first | rfl | rw [hg1, Nat.div_one]; rfl) (by omega) : limbs (d + 0) = denL (sgQ neg n d).den) (I ((sgQ_bnd (p := 1099511627776) (lt2_mono (by decide) hx1) (lt2_le2 (lt2_mono (by decide) hx2)) hd0).1 : lt2 (sgQ neg n d).num.natAbs 1099511627776) (I ((sgQ_bnd (p := 1099511627776) (lt2_mono (by decide) hx1) (lt2_le2 (lt2_mono (by decide) hx2)) hd0).2 : le2 (sgQ neg n d).den 1099511627776) ((Eq.refl (sgQ neg n d)))))))))) (fun (h28 : ¬ ((limbs (d + 0)).length = 1)) => I ((sgQ_neg hn0 hd0).symm : neg = decide ((sgQ neg n d).num < 0)) (I (by rw [sgQ_abs hd0, ← hg]; first | rfl | rw [hg1, Nat.div_one]; rfl : n + 0 = (sgQ neg n d).num.natAbs) (I (red_den (by rw [(sgQ_norm hd0).2, ← hg]; first | rfl | rw [hg1, Nat.div_one]; rfl) (by omega) : limbs (d + 0) = denL (sgQ neg n d).den) (I ((sgQ_bnd (p := 1099511627776) (lt2_mono (by decide) hx1) (lt2_le2 (lt2_mono (by decide) hx2)) hd0).1 : lt2 (sgQ neg n d).num.natAbs 1099511627776) (I ((sgQ_bnd (p := 1099511627776) (lt2_mono (by decide) hx1) (lt2_le2 (lt2_mono (by decide) hx2)) hd0).2 : le2 (sgQ neg n d).den 1099511627776) ((Eq.refl (sgQ neg n d)))))))))) (Nat.gcd n d) rfl))))⟩)
abbrev reduce_c : Ctr Tryz.prog := FI.c reduce_k
end Go.Proofs.YtcjgaaibflcdiaaGreat.Sx

namespace Go.Proofs.YtcjgaaibflcdiaaGreat.Sx
open Go Go.Proofs
set_option linter.unusedVariables false
set_option linter.unusedSimpArgs false
set_option maxRecDepth 20000
set_option maxHeartbeats 4000000
abbrev equ_i : FI := ⟨149, [(.sl (.nat .u32)), (.sl (.nat .u32))], [(.s 1099511627776 (.n 4294967295)), (.s 1099511627776 (.n 4294967295))], fun _ => [], fun b z => (fun (l : List Nat) (m : List Nat) => .c (.one (.dt .bool .u (decide (l = m))))) z.1 z.2⟩
theorem equ_k : equ_i.OK Tryz.prog := mkF hmix 26 Tryz.func149 rfl rfl (by decide) [] (fun _ => rfl) (fun _ => rfl) (fun _ _ => rfl) (fun (l : List Nat) (m : List Nat) b hx hp => one_ok trivial rfl) (fun (l : List Nat) (m : List Nat) hx hp => by
 have hl0 : l.length ≤ 1099511627776 := hx.1.1
 have hl1 : m.length ≤ 1099511627776 := hx.2.1
 exact ⟨.cond (.nil) (.loop [.s 13 (.nat .i64) (.n 1099511627776)] (fun (i : Nat) => i ≤ l.length ∧ l.take i = m.take i) (fun (i : Nat) => l.length - i) (fun (i : Nat) => .nil)), kcast (by kernel_rfl) (And.intro (fun (h1 : l.length ≠ m.length) => ((decide_eq_false (by first | exact (eq_take (by omega) hC.2 (by omega)).2 (by omega) | exact fun e => absurd (congrArg List.length e) (by assumption))).symm : false = decide (l = m))) (fun (h2 : ¬ (l.length ≠ m.length)) => I (⟨Nat.zero_le _, rfl⟩ : 0 ≤ l.length ∧ l.take 0 = m.take 0) (fun (i : Nat) (hb3 : HB [.s 13 (.nat .i64) (.n 1099511627776)] i) (hC : i ≤ l.length ∧ l.take i = m.take i) => have hv8 := (show i ≤ 1099511627776 from hb3); And.intro (fun (h4 : i < l.length) => I (by omega : i < l.length) (I (by omega : i < m.length) (And.intro (fun (h5 : l.getD i 0 ≠ m.getD i 0) => ((decide_eq_false (by first | exact (eq_take (by omega) hC.2 (by omega)).2 (by omega) | exact fun e => absurd (congrArg List.length e) (by assumption))).symm : false = decide (l = m))) (fun (h6 : ¬ (l.getD i 0 ≠ m.getD i 0)) => I (show (i + 1) ≤ 1099511627776 by omega : Bnd (.nat .i64) (.n 1099511627776) (i + 1)) (And.intro (⟨by omega, (eq_take (by omega) hC.2 (by omega)).1 (by omega)⟩ : (i + 1) ≤ l.length ∧ l.take (i + 1) = m.take (i + 1)) (by omega : l.length - (i + 1) < l.length - i)))))) (fun (h7 : ¬ (i < l.length)) => ((decide_eq_true (by have := hC.2; rwa [List.take_of_length_le (by omega), List.take_of_length_le (by omega)] at this)).symm : true = decide (l = m))))))⟩)
abbrev equ_c : Ctr Tryz.prog := FI.c equ_k
abbrev rsign_i : FI := ⟨53, [.rat], [(.n 68719476736)], fun _ => [], fun b z => (fun (x : Rat) => .c (.one (.dt (.int .i64) (.n 1) (sgnQ x)))) z⟩
theorem rsign_k : rsign_i.OK Tryz.prog := mkF hmix 11 Tryz.func53 rfl rfl (by decide) [(93, .c bits_c)] (fun _ => rfl) (fun _ => rfl) (fun _ _ => rfl) (fun (x : Rat) b hx hp => one_ok (sgnQ_abs x) rfl) (fun (x : Rat) hx hp => by
 exact ⟨.nil, kcast (by kernel_rfl) (And.intro (fun (h1 : bl x.num.natAbs = 0) => (by rw [sgnQ, if_pos (bl_eq0.1 (by omega))] : 0 = sgnQ x)) (fun (h2 : ¬ (bl x.num.natAbs = 0)) => And.intro (fun (h3 : x.num < 0) => (by rw [sgnQ, if_neg (fun e => absurd (bl_eq0.2 e) (by omega)), if_pos (by assumption)] : (-1) = sgnQ x)) (fun (h4 : ¬ (x.num < 0)) => (by rw [sgnQ, if_neg (fun e => absurd (bl_eq0.2 e) (by omega)), if_neg (by assumption)] : 1 = sgnQ x))))⟩)
abbrev rsign_c : Ctr Tryz.prog := FI.c rsign_k
abbrev rint_i : FI := ⟨56, [(.int .i64)], [(.n 9223372036854775807)], fun _ => [], fun b z => (fun (v : Int) => .c (.agg [.dt .rat (.n (Nat.log2 (b0 b).nb + 1)) ((v : Rat))])) z⟩
theorem rint_k : rint_i.OK Tryz.prog := mkF hmix 9 Tryz.func56 rfl rfl (by decide) [(96, .c reduce_c), (99, .c rsize_c), (100, .c rone_c)] (fun _ => rfl) (fun _ => rfl) (fun _ _ => rfl) (fun (v : Int) b hx hp => agg_rat (int_bnd (Bnds.h1 hx).int)) (fun (v : Int) hx hp => by
 exact ⟨.nil, kcast (by kernel_rfl) ((sgQ_int v : sgQ (decide (v < 0)) v.natAbs 1 = (v : Rat)))⟩)
abbrev rint_c : Ctr Tryz.prog := FI.c rint_k
abbrev rmul_i : FI := ⟨89, [.rat, .rat], [(.n 68719476736), (.n 68719476736)], fun _ => [], fun b z => (fun (x : Rat) (y : Rat) => .c (.agg [.dt .rat (.n ((b0 b).nb + (b1 b).nb)) (x * y)])) z.1 z.2⟩
theorem rmul_k : rmul_i.OK Tryz.prog := mkF hmix 64 Tryz.func89 rfl rfl (by decide) [(94, .c parts_c), (95, .c short_c), (96, .c reduce_c), (97, .c mul_c), (98, .c rden_c)] (fun _ => rfl) (fun _ => rfl) (fun _ _ => rfl) (fun (x : Rat) (y : Rat) b hx hp => agg_rat (rat_mul_bnd (Bnds.h2 hx).1 (Bnds.h2 hx).2)) (fun (x : Rat) (y : Rat) hx hp => by
 exact ⟨.nil, kcast (by kernel_rfl) (And.intro (fun (h1 : (limbs x.num.natAbs).length = 0) => (by first | rw [rat_num0 (nl0.1 (show (limbs x.num.natAbs).length = 0 by omega)), Rat.zero_mul] | rw [rat_num0 (nl0.1 (show (limbs y.num.natAbs).length = 0 by omega)), Rat.mul_zero] : 0 = x * y)) (fun (h2 : ¬ ((limbs x.num.natAbs).length = 0)) => And.intro (fun (h3 : (limbs y.num.natAbs).length = 0) => (by first | rw [rat_num0 (nl0.1 (show (limbs x.num.natAbs).length = 0 by omega)), Rat.zero_mul] | rw [rat_num0 (nl0.1 (show (limbs y.num.natAbs).length = 0 by omega)), Rat.mul_zero] : 0 = x * y)) (fun (h4 : ¬ ((limbs y.num.natAbs).length = 0)) => And.intro (fun (h5 : pb x = true) => And.intro (fun (h6 : pb y = true) => have hpx := pb_eq (x := x) (by assumption); have hpy := pb_eq (x := y) (by assumption); I (Nat.mul_pos hpx.2.2 hpy.2.2 : 0 < (pd x) * (pd y)) ((by first | exact rat_mul x y | (rw [hpx.1, hpy.1, hpx.2.1, hpy.2.1]; exact rat_mul x y) : sgQ (decide ((decide (x.num < 0)) ≠ (decide (y.num < 0)))) ((pn x) * (pn y)) ((pd x) * (pd y)) = x * y))) (fun (h7 : ¬ (pb y = true)) => (by first | exact rat_mul x y | (rw [hpx.1, hpy.1, hpx.2.1, hpy.2.1]; exact rat_mul x y) : sgQ (decide ((decide (x.num < 0)) ≠ (decide (y.num < 0)))) (x.num.natAbs * y.num.natAbs) (x.den * y.den) = x * y))) (fun (h8 : ¬ (pb x = true)) => (by first | exact rat_mul x y | (rw [hpx.1, hpy.1, hpx.2.1, hpy.2.1]; exact rat_mul x y) : sgQ (decide ((decide (x.num < 0)) ≠ (decide (y.num < 0)))) (x.num.natAbs * y.num.natAbs) (x.den * y.den) = x * y)))))⟩)
abbrev rmul_c : Ctr Tryz.prog := FI.c rmul_k
end Go.Proofs.YtcjgaaibflcdiaaGreat.Sx

namespace Go.Proofs.YtcjgaaibflcdiaaGreat.Sx
open Go Go.Proofs
set_option linter.unusedVariables false
set_option maxRecDepth 20000
def addFn : Array Value → Sem Value := fun args => do
  let (x, y, c) ← Extern.MathBitsCarry.three "Add64" args
  pure (Extern.MathBitsCarry.pair ((x + y + c) % Extern.MathBitsCarry.m64) ((x + y + c) / Extern.MathBitsCarry.m64))
theorem ext_none : Extern.findNext Tryz.f148 = none := by kernel_rfl
theorem ext_add : Extern.find Tryz.f148 = some addFn := by kernel_rfl
theorem run_addFn (a b : Nat) (w : World) : (addFn #[.int .u64 (a : Int), .int .u64 (b : Int), .int .u64 0]).run Tryz.prog w = .ok (Extern.MathBitsCarry.pair ((a + b) % 18446744073709551616) ((a + b) / 18446744073709551616)) w := by
  kernel_rfl
theorem ok_add64 {fx x y z : Operand} {ts : Array TypeId} {ty : TypeId} {a b : Nat} :
    OpOk Tryz.prog (.call { callee := .value fx, args := #[x, y, z], argTypes := ts }) ty [(fx, vFun 148), (x, vInt .u64 a), (y, vInt .u64 b), (z, vInt .u64 0)] []
      (.tup [.one (.val (.int .u64 (((a + b) % 18446744073709551616 : Nat) : Int))), .one (.val (.int .u64 (((a + b) / 18446744073709551616 : Nat) : Int)))]) [] :=
  ok_value fun ac w H β hins _ _ => by
    have hf := (hins (fx, vFun 148) (by simp)).1
    have hx := (hins (x, vInt .u64 a) (by simp)).1
    have hy := (hins (y, vInt .u64 b) (by simp)).1
    have hz := (hins (z, vInt .u64 0) (by simp)).1
    simp only at hf hx hy hz
    refine ⟨Extern.MathBitsCarry.pair ((a + b) % 18446744073709551616) ((a + b) / 18446744073709551616), ?_, fun _ _ _ _ => ?_⟩
    · exact ⟨_, rfl, ⟨⟨rfl, rfl⟩, ⟨⟨rfl, rfl⟩, trivial⟩⟩⟩
    · have hb : Tryz.f148.body.isNone = true := by kernel_rfl
      have hn : (Tryz.f148.name == "runtime.NumGoroutine") = false := by kernel_rfl
      simp only [execOp, resolve, hf, Deferred.ofValue, Sem.run_bind, Sem.run_pure, Result.andThen_ok, invoke, callFunc, run_program, Tryz.func148, hb, hn, Bool.false_eq_true, if_false, if_true, ext_none, ext_add]
      rw [show (#[] ++ Array.map ac.eval #[x, y, z] ++ #[] : Array Value) = #[.int .u64 (a : Int), .int .u64 (b : Int), .int .u64 0] by simp [hx, hy, hz]]
      rw [show Sem.run Tryz.prog (mark (Mark.extern 148)) w = .ok () w from rfl]
      simp only [Result.andThen_ok, run_addFn]
end Go.Proofs.YtcjgaaibflcdiaaGreat.Sx

namespace Go.Proofs.YtcjgaaibflcdiaaGreat.Sx
open Go Go.Proofs
set_option linter.unusedVariables false
set_option linter.unusedSimpArgs false
set_option maxRecDepth 20000
set_option maxHeartbeats 4000000
abbrev radd_i : FI := ⟨92, [.rat, .rat, .bool], [(.n 68719476736), (.n 68719476736), .u], fun _ => [], fun b z => (fun (x : Rat) (y : Rat) (s : Bool) => .c (.agg [.dt .rat (.n ((b0 b).nb + (b1 b).nb + 1)) (x + yQ s y)])) z.1 z.2.1 z.2.2⟩
theorem radd_k : radd_i.OK Tryz.prog := mkF hmix 152 Tryz.func92 rfl rfl (by decide) [(94, .c parts_c), (95, .c short_c), (96, .c reduce_c), (97, .c mul_c), (98, .c rden_c), (149, .c equ_c), (150, .c add_c), (151, .c sub_c)] (fun _ => rfl) (fun _ => rfl) (fun _ _ => rfl) (fun (x : Rat) (y : Rat) (s : Bool) b hx hp => agg_rat (add_bnd (Bnds.h3 hx).1 (Bnds.h3 hx).2.1)) (fun (x : Rat) (y : Rat) (s : Bool) hx hp => by
 exact ⟨.cond (.cond (.h 6 2 (.any [.c (.one (.vl (.func (.func 148) #[] #[]))), .c (.one (.dt (.nat .u64) (.n 18446744065119617025) ((pn x) * (pd y)))), .c (.one (.dt (.nat .u64) (.n 18446744065119617025) ((pn y) * (pd x)))), .c (.one (.kn .u64 0))] (.tup [(.one (.dt (.nat .u64) (.n 18446744073709551615) ((((pn x) * (pd y)) + ((pn y) * (pd x))) % 18446744073709551616))), (.one (.dt (.nat .u64) (.n 1) (cy ((pn x) * (pd y)) ((pn y) * (pd x)))))]) (tup_cons (one_ok (Nat.le_of_lt_succ (Nat.mod_lt _ (by decide))) rfl) (tup_cons (one_ok (cy_le (Nat.mul_le_mul (pn_le x) (pd_le y)) (Nat.mul_le_mul (pn_le y) (pd_le x))) rfl) tup_nil)) (Op.call { callee := .value (.func 148), args := #[.tmp 43, .tmp 44, .const (.int .u64 0)], argTypes := #[120, 120, 120] }) (fun _ => ok_add64 (a := (pn x) * (pd y)) (b := (pn y) * (pd x)))) (.cond (.cond (.nil) (.cond (.cond (.h 10 4 (.i .sub) (.nil)) (.cond (.h 12 3 (.i .sub) (.nil)) (.nil))) (.cond (.h 12 3 (.i .sub) (.nil)) (.nil)))) (.cond (.cond (.h 10 4 (.i .sub) (.nil)) (.cond (.h 12 3 (.i .sub) (.nil)) (.nil))) (.cond (.h 12 3 (.i .sub) (.nil)) (.nil))))) (.nil)) (.nil), kcast (by kernel_rfl) (And.intro (fun (h1 : pb x = true) => And.intro (fun (h2 : pb y = true) => have hpx := pb_eq (x := x) (by assumption); have hpy := pb_eq (x := y) (by assumption); have hx8 := pn_le x; have hx9 := pd_le x; have hy8 := pn_le y; have hy9 := pd_le y; have hm1 := Nat.mul_le_mul hx8 hy9; have hm2 := Nat.mul_le_mul hy8 hx9; have hpp := Nat.mul_pos hpx.2.2 hpy.2.2; I (rfl : ([.c (.one (.vl (.func (.func 148) #[] #[]))), .c (.one (.dt (.nat .u64) (.n 18446744065119617025) ((pn x) * (pd y)))), .c (.one (.dt (.nat .u64) (.n 18446744065119617025) ((pn y) * (pd x)))), .c (.one (.kn .u64 0))] : List WV) = [.c (.one (.vl (.func (.func 148) #[] #[]))), .c (.one (.dt (.nat .u64) (.n 18446744065119617025) ((pn x) * (pd y)))), .c (.one (.dt (.nat .u64) (.n 18446744065119617025) ((pn y) * (pd x)))), .c (.one (.kn .u64 0))]) (I (rfl : (Op.call { callee := .value (.func 148), args := #[.tmp 43, .tmp 44, .const (.int .u64 0)], argTypes := #[120, 120, 120] } : Op) = Op.call { callee := .value (.func 148), args := #[.tmp 43, .tmp 44, .const (.int .u64 0)], argTypes := #[120, 120, 120] }) (And.intro (fun (h3 : (decide (x.num < 0)) = s) => And.intro (fun (h4 : cy ((pn x) * (pd y)) ((pn y) * (pd x)) = 0) => I (hpp : 0 < (pd x) * (pd y)) (((by first | contradiction | skip; rw [hpx.1, hpx.2.1, hpy.1, hpy.2.1] at *; first | (rw [cy_mod (by assumption)]; exact add_sm (by assumption)) | exact add_ge (by assumption) (by assumption) | exact add_le (by assumption) (by omega)) : sgQ s ((((pn x) * (pd y)) + ((pn y) * (pd x))) % 18446744073709551616) ((pd x) * (pd y)) = x + yQ s y))) (fun (h5 : ¬ (cy ((pn x) * (pd y)) ((pn y) * (pd x)) = 0)) => And.intro (fun (h6 : (decide (x.num < 0)) ≠ s) => And.intro (fun (h7 : (pn y) * (pd x) ≤ (pn x) * (pd y)) => I (by first | omega | contradiction : (pn y) * (pd x) ≤ (pn x) * (pd y)) (I (hpp : 0 < (pd x) * (pd y)) (((by first | contradiction | skip; rw [hpx.1, hpx.2.1, hpy.1, hpy.2.1] at *; first | (rw [cy_mod (by assumption)]; exact add_sm (by assumption)) | exact add_ge (by assumption) (by assumption) | exact add_le (by assumption) (by omega)) : sgQ (decide (x.num < 0)) (((pn x) * (pd y)) - ((pn y) * (pd x))) ((pd x) * (pd y)) = x + yQ s y)))) (fun (h8 : ¬ ((pn y) * (pd x) ≤ (pn x) * (pd y))) => And.intro (fun (h9 : (decide (x.num < 0)) ≠ s) => I (by first | omega | contradiction : (pn x) * (pd y) ≤ (pn y) * (pd x)) (I (hpp : 0 < (pd x) * (pd y)) (((by first | contradiction | skip; rw [hpx.1, hpx.2.1, hpy.1, hpy.2.1] at *; first | (rw [cy_mod (by assumption)]; exact add_sm (by assumption)) | exact add_ge (by assumption) (by assumption) | exact add_le (by assumption) (by omega)) : sgQ s (((pn y) * (pd x)) - ((pn x) * (pd y))) ((pd x) * (pd y)) = x + yQ s y)))) (fun (h10 : ¬ ((decide (x.num < 0)) ≠ s)) => And.intro (fun (h11 : (!(decide ((denL x.den) = (denL y.den)))) = true) => And.intro (fun (h12 : (decide (x.num < 0)) = s) => ((by first | contradiction | exact add_sm' hde (by assumption) | exact add_ge' hde (by assumption) (subC_0.1 (by assumption)) | exact add_le' hde (by assumption) (Nat.le_of_lt (Nat.lt_of_not_le (mt subC_0.2 (by assumption)))) | exact add_sm (by assumption) | exact add_ge (by assumption) (subC_0.1 (by assumption)) | exact add_le (by assumption) (Nat.le_of_lt (Nat.lt_of_not_le (mt subC_0.2 (by assumption))))) : sgQ s ((x.num.natAbs * y.den) + (y.num.natAbs * x.den)) (x.den * y.den) = x + yQ s y)) (fun (h13 : ¬ ((decide (x.num < 0)) = s)) => And.intro (fun (h14 : subC (x.num.natAbs * y.den) (y.num.natAbs * x.den) = 0) => ((by first | contradiction | exact add_sm' hde (by assumption) | exact add_ge' hde (by assumption) (subC_0.1 (by assumption)) | exact add_le' hde (by assumption) (Nat.le_of_lt (Nat.lt_of_not_le (mt subC_0.2 (by assumption)))) | exact add_sm (by assumption) | exact add_ge (by assumption) (subC_0.1 (by assumption)) | exact add_le (by assumption) (Nat.le_of_lt (Nat.lt_of_not_le (mt subC_0.2 (by assumption))))) : sgQ (decide (x.num < 0)) ((x.num.natAbs * y.den) - (y.num.natAbs * x.den)) (x.den * y.den) = x + yQ s y)) (fun (h15 : ¬ (subC (x.num.natAbs * y.den) (y.num.natAbs * x.den) = 0)) => ((by first | contradiction | exact add_sm' hde (by assumption) | exact add_ge' hde (by assumption) (subC_0.1 (by assumption)) | exact add_le' hde (by assumption) (Nat.le_of_lt (Nat.lt_of_not_le (mt subC_0.2 (by assumption)))) | exact add_sm (by assumption) | exact add_ge (by assumption) (subC_0.1 (by assumption)) | exact add_le (by assumption) (Nat.le_of_lt (Nat.lt_of_not_le (mt subC_0.2 (by assumption))))) : sgQ s ((y.num.natAbs * x.den) - (x.num.natAbs * y.den)) (x.den * y.den) = x + yQ s y)))) (fun (h16 : ¬ ((!(decide ((denL x.den) = (denL y.den)))) = true)) => have hde := (show x.den = y.den from denL_inj x.den_nz y.den_nz (by have h := h16; simpa using h)); And.intro (fun (h17 : (decide (x.num < 0)) = s) => ((by first | contradiction | exact add_sm' hde (by assumption) | exact add_ge' hde (by assumption) (subC_0.1 (by assumption)) | exact add_le' hde (by assumption) (Nat.le_of_lt (Nat.lt_of_not_le (mt subC_0.2 (by assumption)))) | exact add_sm (by assumption) | exact add_ge (by assumption) (subC_0.1 (by assumption)) | exact add_le (by assumption) (Nat.le_of_lt (Nat.lt_of_not_le (mt subC_0.2 (by assumption))))) : sgQ s (x.num.natAbs + y.num.natAbs) x.den = x + yQ s y)) (fun (h18 : ¬ ((decide (x.num < 0)) = s)) => And.intro (fun (h19 : subC x.num.natAbs y.num.natAbs = 0) => ((by first | contradiction | exact add_sm' hde (by assumption) | exact add_ge' hde (by assumption) (subC_0.1 (by assumption)) | exact add_le' hde (by assumption) (Nat.le_of_lt (Nat.lt_of_not_le (mt subC_0.2 (by assumption)))) | exact add_sm (by assumption) | exact add_ge (by assumption) (subC_0.1 (by assumption)) | exact add_le (by assumption) (Nat.le_of_lt (Nat.lt_of_not_le (mt subC_0.2 (by assumption))))) : sgQ (decide (x.num < 0)) (x.num.natAbs - y.num.natAbs) x.den = x + yQ s y)) (fun (h20 : ¬ (subC x.num.natAbs y.num.natAbs = 0)) => ((by first | contradiction | exact add_sm' hde (by assumption) | exact add_ge' hde (by assumption) (subC_0.1 (by assumption)) | exact add_le' hde (by assumption) (Nat.le_of_lt (Nat.lt_of_not_le (mt subC_0.2 (by assumption)))) | exact add_sm (by assumption) | exact add_ge (by assumption) (subC_0.1 (by assumption)) | exact add_le (by assumption) (Nat.le_of_lt (Nat.lt_of_not_le (mt subC_0.2 (by assumption))))) : sgQ s (y.num.natAbs - x.num.natAbs) x.den = x + yQ s y))))))) (fun (h21 : ¬ ((decide (x.num < 0)) ≠ s)) => And.intro (fun (h22 : (decide (x.num < 0)) ≠ s) => I (by first | omega | contradiction : (pn x) * (pd y) ≤ (pn y) * (pd x)) (I (hpp : 0 < (pd x) * (pd y)) (((by first | contradiction | skip; rw [hpx.1, hpx.2.1, hpy.1, hpy.2.1] at *; first | (rw [cy_mod (by assumption)]; exact add_sm (by assumption)) | exact add_ge (by assumption) (by assumption) | exact add_le (by assumption) (by omega)) : sgQ s (((pn y) * (pd x)) - ((pn x) * (pd y))) ((pd x) * (pd y)) = x + yQ s y)))) (fun (h23 : ¬ ((decide (x.num < 0)) ≠ s)) => And.intro (fun (h24 : (!(decide ((denL x.den) = (denL y.den)))) = true) => And.intro (fun (h25 : (decide (x.num < 0)) = s) => ((by first | contradiction | exact add_sm' hde (by assumption) | exact add_ge' hde (by assumption) (subC_0.1 (by assumption)) | exact add_le' hde (by assumption) (Nat.le_of_lt (Nat.lt_of_not_le (mt subC_0.2 (by assumption)))) | exact add_sm (by assumption) | exact add_ge (by assumption) (subC_0.1 (by assumption)) | exact add_le (by assumption) (Nat.le_of_lt (Nat.lt_of_not_le (mt subC_0.2 (by assumption))))) : sgQ s ((x.num.natAbs * y.den) + (y.num.natAbs * x.den)) (x.den * y.den) = x + yQ s y)) (fun (h26 : ¬ ((decide (x.num < 0)) = s)) => And.intro (fun (h27 : subC (x.num.natAbs * y.den) (y.num.natAbs * x.den) = 0) => ((by first | contradiction | exact add_sm' hde (by assumption) | exact add_ge' hde (by assumption) (subC_0.1 (by assumption)) | exact add_le' hde (by assumption) (Nat.le_of_lt (Nat.lt_of_not_le (mt subC_0.2 (by assumption)))) | exact add_sm (by assumption) | exact add_ge (by assumption) (subC_0.1 (by assumption)) | exact add_le (by assumption) (Nat.le_of_lt (Nat.lt_of_not_le (mt subC_0.2 (by assumption))))) : sgQ (decide (x.num < 0)) ((x.num.natAbs * y.den) - (y.num.natAbs * x.den)) (x.den * y.den) = x + yQ s y)) (fun (h28 : ¬ (subC (x.num.natAbs * y.den) (y.num.natAbs * x.den) = 0)) => ((by first | contradiction | exact add_sm' hde (by assumption) | exact add_ge' hde (by assumption) (subC_0.1 (by assumption)) | exact add_le' hde (by assumption) (Nat.le_of_lt (Nat.lt_of_not_le (mt subC_0.2 (by assumption)))) | exact add_sm (by assumption) | exact add_ge (by assumption) (subC_0.1 (by assumption)) | exact add_le (by assumption) (Nat.le_of_lt (Nat.lt_of_not_le (mt subC_0.2 (by assumption))))) : sgQ s ((y.num.natAbs * x.den) - (x.num.natAbs * y.den)) (x.den * y.den) = x + yQ s y)))) (fun (h29 : ¬ ((!(decide ((denL x.den) = (denL y.den)))) = true)) => have hde := (show x.den = y.den from denL_inj x.den_nz y.den_nz (by have h := h29; simpa using h)); And.intro (fun (h30 : (decide (x.num < 0)) = s) => ((by first | contradiction | exact add_sm' hde (by assumption) | exact add_ge' hde (by assumption) (subC_0.1 (by assumption)) | exact add_le' hde (by assumption) (Nat.le_of_lt (Nat.lt_of_not_le (mt subC_0.2 (by assumption)))) | exact add_sm (by assumption) | exact add_ge (by assumption) (subC_0.1 (by assumption)) | exact add_le (by assumption) (Nat.le_of_lt (Nat.lt_of_not_le (mt subC_0.2 (by assumption))))) : sgQ s (x.num.natAbs + y.num.natAbs) x.den = x + yQ s y)) (fun (h31 : ¬ ((decide (x.num < 0)) = s)) => And.intro (fun (h32 : subC x.num.natAbs y.num.natAbs = 0) => ((by first | contradiction | exact add_sm' hde (by assumption) | exact add_ge' hde (by assumption) (subC_0.1 (by assumption)) | exact add_le' hde (by assumption) (Nat.le_of_lt (Nat.lt_of_not_le (mt subC_0.2 (by assumption)))) | exact add_sm (by assumption) | exact add_ge (by assumption) (subC_0.1 (by assumption)) | exact add_le (by assumption) (Nat.le_of_lt (Nat.lt_of_not_le (mt subC_0.2 (by assumption))))) : sgQ (decide (x.num < 0)) (x.num.natAbs - y.num.natAbs) x.den = x + yQ s y)) (fun (h33 : ¬ (subC x.num.natAbs y.num.natAbs = 0)) => ((by first | contradiction | exact add_sm' hde (by assumption) | exact add_ge' hde (by assumption) (subC_0.1 (by assumption)) | exact add_le' hde (by assumption) (Nat.le_of_lt (Nat.lt_of_not_le (mt subC_0.2 (by assumption)))) | exact add_sm (by assumption) | exact add_ge (by assumption) (subC_0.1 (by assumption)) | exact add_le (by assumption) (Nat.le_of_lt (Nat.lt_of_not_le (mt subC_0.2 (by assumption))))) : sgQ s (y.num.natAbs - x.num.natAbs) x.den = x + yQ s y)))))))) (fun (h34 : ¬ ((decide (x.num < 0)) = s)) => And.intro (fun (h35 : (decide (x.num < 0)) ≠ s) => And.intro (fun (h36 : (pn y) * (pd x) ≤ (pn x) * (pd y)) => I (by first | omega | contradiction : (pn y) * (pd x) ≤ (pn x) * (pd y)) (I (hpp : 0 < (pd x) * (pd y)) (((by first | contradiction | skip; rw [hpx.1, hpx.2.1, hpy.1, hpy.2.1] at *; first | (rw [cy_mod (by assumption)]; exact add_sm (by assumption)) | exact add_ge (by assumption) (by assumption) | exact add_le (by assumption) (by omega)) : sgQ (decide (x.num < 0)) (((pn x) * (pd y)) - ((pn y) * (pd x))) ((pd x) * (pd y)) = x + yQ s y)))) (fun (h37 : ¬ ((pn y) * (pd x) ≤ (pn x) * (pd y))) => And.intro (fun (h38 : (decide (x.num < 0)) ≠ s) => I (by first | omega | contradiction : (pn x) * (pd y) ≤ (pn y) * (pd x)) (I (hpp : 0 < (pd x) * (pd y)) (((by first | contradiction | skip; rw [hpx.1, hpx.2.1, hpy.1, hpy.2.1] at *; first | (rw [cy_mod (by assumption)]; exact add_sm (by assumption)) | exact add_ge (by assumption) (by assumption) | exact add_le (by assumption) (by omega)) : sgQ s (((pn y) * (pd x)) - ((pn x) * (pd y))) ((pd x) * (pd y)) = x + yQ s y)))) (fun (h39 : ¬ ((decide (x.num < 0)) ≠ s)) => And.intro (fun (h40 : (!(decide ((denL x.den) = (denL y.den)))) = true) => And.intro (fun (h41 : (decide (x.num < 0)) = s) => ((by first | contradiction | exact add_sm' hde (by assumption) | exact add_ge' hde (by assumption) (subC_0.1 (by assumption)) | exact add_le' hde (by assumption) (Nat.le_of_lt (Nat.lt_of_not_le (mt subC_0.2 (by assumption)))) | exact add_sm (by assumption) | exact add_ge (by assumption) (subC_0.1 (by assumption)) | exact add_le (by assumption) (Nat.le_of_lt (Nat.lt_of_not_le (mt subC_0.2 (by assumption))))) : sgQ s ((x.num.natAbs * y.den) + (y.num.natAbs * x.den)) (x.den * y.den) = x + yQ s y)) (fun (h42 : ¬ ((decide (x.num < 0)) = s)) => And.intro (fun (h43 : subC (x.num.natAbs * y.den) (y.num.natAbs * x.den) = 0) => ((by first | contradiction | exact add_sm' hde (by assumption) | exact add_ge' hde (by assumption) (subC_0.1 (by assumption)) | exact add_le' hde (by assumption) (Nat.le_of_lt (Nat.lt_of_not_le (mt subC_0.2 (by assumption)))) | exact add_sm (by assumption) | exact add_ge (by assumption) (subC_0.1 (by assumption)) | exact add_le (by assumption) (Nat.le_of_lt (Nat.lt_of_not_le (mt subC_0.2 (by assumption))))) : sgQ (decide (x.num < 0)) ((x.num.natAbs * y.den) - (y.num.natAbs * x.den)) (x.den * y.den) = x + yQ s y)) (fun (h44 : ¬ (subC (x.num.natAbs * y.den) (y.num.natAbs * x.den) = 0)) => ((by first | contradiction | exact add_sm' hde (by assumption) | exact add_ge' hde (by assumption) (subC_0.1 (by assumption)) | exact add_le' hde (by assumption) (Nat.le_of_lt (Nat.lt_of_not_le (mt subC_0.2 (by assumption)))) | exact add_sm (by assumption) | exact add_ge (by assumption) (subC_0.1 (by assumption)) | exact add_le (by assumption) (Nat.le_of_lt (Nat.lt_of_not_le (mt subC_0.2 (by assumption))))) : sgQ s ((y.num.natAbs * x.den) - (x.num.natAbs * y.den)) (x.den * y.den) = x + yQ s y)))) (fun (h45 : ¬ ((!(decide ((denL x.den) = (denL y.den)))) = true)) => have hde := (show x.den = y.den from denL_inj x.den_nz y.den_nz (by have h := h45; simpa using h)); And.intro (fun (h46 : (decide (x.num < 0)) = s) => ((by first | contradiction | exact add_sm' hde (by assumption) | exact add_ge' hde (by assumption) (subC_0.1 (by assumption)) | exact add_le' hde (by assumption) (Nat.le_of_lt (Nat.lt_of_not_le (mt subC_0.2 (by assumption)))) | exact add_sm (by assumption) | exact add_ge (by assumption) (subC_0.1 (by assumption)) | exact add_le (by assumption) (Nat.le_of_lt (Nat.lt_of_not_le (mt subC_0.2 (by assumption))))) : sgQ s (x.num.natAbs + y.num.natAbs) x.den = x + yQ s y)) (fun (h47 : ¬ ((decide (x.num < 0)) = s)) => And.intro (fun (h48 : subC x.num.natAbs y.num.natAbs = 0) => ((by first | contradiction | exact add_sm' hde (by assumption) | exact add_ge' hde (by assumption) (subC_0.1 (by assumption)) | exact add_le' hde (by assumption) (Nat.le_of_lt (Nat.lt_of_not_le (mt subC_0.2 (by assumption)))) | exact add_sm (by assumption) | exact add_ge (by assumption) (subC_0.1 (by assumption)) | exact add_le (by assumption) (Nat.le_of_lt (Nat.lt_of_not_le (mt subC_0.2 (by assumption))))) : sgQ (decide (x.num < 0)) (x.num.natAbs - y.num.natAbs) x.den = x + yQ s y)) (fun (h49 : ¬ (subC x.num.natAbs y.num.natAbs = 0)) => ((by first | contradiction | exact add_sm' hde (by assumption) | exact add_ge' hde (by assumption) (subC_0.1 (by assumption)) | exact add_le' hde (by assumption) (Nat.le_of_lt (Nat.lt_of_not_le (mt subC_0.2 (by assumption)))) | exact add_sm (by assumption) | exact add_ge (by assumption) (subC_0.1 (by assumption)) | exact add_le (by assumption) (Nat.le_of_lt (Nat.lt_of_not_le (mt subC_0.2 (by assumption))))) : sgQ s (y.num.natAbs - x.num.natAbs) x.den = x + yQ s y))))))) (fun (h50 : ¬ ((decide (x.num < 0)) ≠ s)) => And.intro (fun (h51 : (decide (x.num < 0)) ≠ s) => I (by first | omega | contradiction : (pn x) * (pd y) ≤ (pn y) * (pd x)) (I (hpp : 0 < (pd x) * (pd y)) (((by first | contradiction | skip; rw [hpx.1, hpx.2.1, hpy.1, hpy.2.1] at *; first | (rw [cy_mod (by assumption)]; exact add_sm (by assumption)) | exact add_ge (by assumption) (by assumption) | exact add_le (by assumption) (by omega)) : sgQ s (((pn y) * (pd x)) - ((pn x) * (pd y))) ((pd x) * (pd y)) = x + yQ s y)))) (fun (h52 : ¬ ((decide (x.num < 0)) ≠ s)) => And.intro (fun (h53 : (!(decide ((denL x.den) = (denL y.den)))) = true) => And.intro (fun (h54 : (decide (x.num < 0)) = s) => ((by first | contradiction | exact add_sm' hde (by assumption) | exact add_ge' hde (by assumption) (subC_0.1 (by assumption)) | exact add_le' hde (by assumption) (Nat.le_of_lt (Nat.lt_of_not_le (mt subC_0.2 (by assumption)))) | exact add_sm (by assumption) | exact add_ge (by assumption) (subC_0.1 (by assumption)) | exact add_le (by assumption) (Nat.le_of_lt (Nat.lt_of_not_le (mt subC_0.2 (by assumption))))) : sgQ s ((x.num.natAbs * y.den) + (y.num.natAbs * x.den)) (x.den * y.den) = x + yQ s y)) (fun (h55 : ¬ ((decide (x.num < 0)) = s)) => And.intro (fun (h56 : subC (x.num.natAbs * y.den) (y.num.natAbs * x.den) = 0) => ((by first | contradiction | exact add_sm' hde (by assumption) | exact add_ge' hde (by assumption) (subC_0.1 (by assumption)) | exact add_le' hde (by assumption) (Nat.le_of_lt (Nat.lt_of_not_le (mt subC_0.2 (by assumption)))) | exact add_sm (by assumption) | exact add_ge (by assumption) (subC_0.1 (by assumption)) | exact add_le (by assumption) (Nat.le_of_lt (Nat.lt_of_not_le (mt subC_0.2 (by assumption))))) : sgQ (decide (x.num < 0)) ((x.num.natAbs * y.den) - (y.num.natAbs * x.den)) (x.den * y.den) = x + yQ s y)) (fun (h57 : ¬ (subC (x.num.natAbs * y.den) (y.num.natAbs * x.den) = 0)) => ((by first | contradiction | exact add_sm' hde (by assumption) | exact add_ge' hde (by assumption) (subC_0.1 (by assumption)) | exact add_le' hde (by assumption) (Nat.le_of_lt (Nat.lt_of_not_le (mt subC_0.2 (by assumption)))) | exact add_sm (by assumption) | exact add_ge (by assumption) (subC_0.1 (by assumption)) | exact add_le (by assumption) (Nat.le_of_lt (Nat.lt_of_not_le (mt subC_0.2 (by assumption))))) : sgQ s ((y.num.natAbs * x.den) - (x.num.natAbs * y.den)) (x.den * y.den) = x + yQ s y)))) (fun (h58 : ¬ ((!(decide ((denL x.den) = (denL y.den)))) = true)) => have hde := (show x.den = y.den from denL_inj x.den_nz y.den_nz (by have h := h58; simpa using h)); And.intro (fun (h59 : (decide (x.num < 0)) = s) => ((by first | contradiction | exact add_sm' hde (by assumption) | exact add_ge' hde (by assumption) (subC_0.1 (by assumption)) | exact add_le' hde (by assumption) (Nat.le_of_lt (Nat.lt_of_not_le (mt subC_0.2 (by assumption)))) | exact add_sm (by assumption) | exact add_ge (by assumption) (subC_0.1 (by assumption)) | exact add_le (by assumption) (Nat.le_of_lt (Nat.lt_of_not_le (mt subC_0.2 (by assumption))))) : sgQ s (x.num.natAbs + y.num.natAbs) x.den = x + yQ s y)) (fun (h60 : ¬ ((decide (x.num < 0)) = s)) => And.intro (fun (h61 : subC x.num.natAbs y.num.natAbs = 0) => ((by first | contradiction | exact add_sm' hde (by assumption) | exact add_ge' hde (by assumption) (subC_0.1 (by assumption)) | exact add_le' hde (by assumption) (Nat.le_of_lt (Nat.lt_of_not_le (mt subC_0.2 (by assumption)))) | exact add_sm (by assumption) | exact add_ge (by assumption) (subC_0.1 (by assumption)) | exact add_le (by assumption) (Nat.le_of_lt (Nat.lt_of_not_le (mt subC_0.2 (by assumption))))) : sgQ (decide (x.num < 0)) (x.num.natAbs - y.num.natAbs) x.den = x + yQ s y)) (fun (h62 : ¬ (subC x.num.natAbs y.num.natAbs = 0)) => ((by first | contradiction | exact add_sm' hde (by assumption) | exact add_ge' hde (by assumption) (subC_0.1 (by assumption)) | exact add_le' hde (by assumption) (Nat.le_of_lt (Nat.lt_of_not_le (mt subC_0.2 (by assumption)))) | exact add_sm (by assumption) | exact add_ge (by assumption) (subC_0.1 (by assumption)) | exact add_le (by assumption) (Nat.le_of_lt (Nat.lt_of_not_le (mt subC_0.2 (by assumption))))) : sgQ s (y.num.natAbs - x.num.natAbs) x.den = x + yQ s y)))))))))) (fun (h63 : ¬ (pb y = true)) => And.intro (fun (h64 : (!(decide ((denL x.den) = (denL y.den)))) = true) => And.intro (fun (h65 : (decide (x.num < 0)) = s) => ((by first | contradiction | exact add_sm' hde (by assumption) | exact add_ge' hde (by assumption) (subC_0.1 (by assumption)) | exact add_le' hde (by assumption) (Nat.le_of_lt (Nat.lt_of_not_le (mt subC_0.2 (by assumption)))) | exact add_sm (by assumption) | exact add_ge (by assumption) (subC_0.1 (by assumption)) | exact add_le (by assumption) (Nat.le_of_lt (Nat.lt_of_not_le (mt subC_0.2 (by assumption))))) : sgQ s ((x.num.natAbs * y.den) + (y.num.natAbs * x.den)) (x.den * y.den) = x + yQ s y)) (fun (h66 : ¬ ((decide (x.num < 0)) = s)) => And.intro (fun (h67 : subC (x.num.natAbs * y.den) (y.num.natAbs * x.den) = 0) => ((by first | contradiction | exact add_sm' hde (by assumption) | exact add_ge' hde (by assumption) (subC_0.1 (by assumption)) | exact add_le' hde (by assumption) (Nat.le_of_lt (Nat.lt_of_not_le (mt subC_0.2 (by assumption)))) | exact add_sm (by assumption) | exact add_ge (by assumption) (subC_0.1 (by assumption)) | exact add_le (by assumption) (Nat.le_of_lt (Nat.lt_of_not_le (mt subC_0.2 (by assumption))))) : sgQ (decide (x.num < 0)) ((x.num.natAbs * y.den) - (y.num.natAbs * x.den)) (x.den * y.den) = x + yQ s y)) (fun (h68 : ¬ (subC (x.num.natAbs * y.den) (y.num.natAbs * x.den) = 0)) => ((by first | contradiction | exact add_sm' hde (by assumption) | exact add_ge' hde (by assumption) (subC_0.1 (by assumption)) | exact add_le' hde (by assumption) (Nat.le_of_lt (Nat.lt_of_not_le (mt subC_0.2 (by assumption)))) | exact add_sm (by assumption) | exact add_ge (by assumption) (subC_0.1 (by assumption)) | exact add_le (by assumption) (Nat.le_of_lt (Nat.lt_of_not_le (mt subC_0.2 (by assumption))))) : sgQ s ((y.num.natAbs * x.den) - (x.num.natAbs * y.den)) (x.den * y.den) = x + yQ s y)))) (fun (h69 : ¬ ((!(decide ((denL x.den) = (denL y.den)))) = true)) => have hde := (show x.den = y.den from denL_inj x.den_nz y.den_nz (by have h := h69; simpa using h)); And.intro (fun (h70 : (decide (x.num < 0)) = s) => ((by first | contradiction | exact add_sm' hde (by assumption) | exact add_ge' hde (by assumption) (subC_0.1 (by assumption)) | exact add_le' hde (by assumption) (Nat.le_of_lt (Nat.lt_of_not_le (mt subC_0.2 (by assumption)))) | exact add_sm (by assumption) | exact add_ge (by assumption) (subC_0.1 (by assumption)) | exact add_le (by assumption) (Nat.le_of_lt (Nat.lt_of_not_le (mt subC_0.2 (by assumption))))) : sgQ s (x.num.natAbs + y.num.natAbs) x.den = x + yQ s y)) (fun (h71 : ¬ ((decide (x.num < 0)) = s)) => And.intro (fun (h72 : subC x.num.natAbs y.num.natAbs = 0) => ((by first | contradiction | exact add_sm' hde (by assumption) | exact add_ge' hde (by assumption) (subC_0.1 (by assumption)) | exact add_le' hde (by assumption) (Nat.le_of_lt (Nat.lt_of_not_le (mt subC_0.2 (by assumption)))) | exact add_sm (by assumption) | exact add_ge (by assumption) (subC_0.1 (by assumption)) | exact add_le (by assumption) (Nat.le_of_lt (Nat.lt_of_not_le (mt subC_0.2 (by assumption))))) : sgQ (decide (x.num < 0)) (x.num.natAbs - y.num.natAbs) x.den = x + yQ s y)) (fun (h73 : ¬ (subC x.num.natAbs y.num.natAbs = 0)) => ((by first | contradiction | exact add_sm' hde (by assumption) | exact add_ge' hde (by assumption) (subC_0.1 (by assumption)) | exact add_le' hde (by assumption) (Nat.le_of_lt (Nat.lt_of_not_le (mt subC_0.2 (by assumption)))) | exact add_sm (by assumption) | exact add_ge (by assumption) (subC_0.1 (by assumption)) | exact add_le (by assumption) (Nat.le_of_lt (Nat.lt_of_not_le (mt subC_0.2 (by assumption))))) : sgQ s (y.num.natAbs - x.num.natAbs) x.den = x + yQ s y)))))) (fun (h74 : ¬ (pb x = true)) => And.intro (fun (h75 : (!(decide ((denL x.den) = (denL y.den)))) = true) => And.intro (fun (h76 : (decide (x.num < 0)) = s) => ((by first | contradiction | exact add_sm' hde (by assumption) | exact add_ge' hde (by assumption) (subC_0.1 (by assumption)) | exact add_le' hde (by assumption) (Nat.le_of_lt (Nat.lt_of_not_le (mt subC_0.2 (by assumption)))) | exact add_sm (by assumption) | exact add_ge (by assumption) (subC_0.1 (by assumption)) | exact add_le (by assumption) (Nat.le_of_lt (Nat.lt_of_not_le (mt subC_0.2 (by assumption))))) : sgQ s ((x.num.natAbs * y.den) + (y.num.natAbs * x.den)) (x.den * y.den) = x + yQ s y)) (fun (h77 : ¬ ((decide (x.num < 0)) = s)) => And.intro (fun (h78 : subC (x.num.natAbs * y.den) (y.num.natAbs * x.den) = 0) => ((by first | contradiction | exact add_sm' hde (by assumption) | exact add_ge' hde (by assumption) (subC_0.1 (by assumption)) | exact add_le' hde (by assumption) (Nat.le_of_lt (Nat.lt_of_not_le (mt subC_0.2 (by assumption)))) | exact add_sm (by assumption) | exact add_ge (by assumption) (subC_0.1 (by assumption)) | exact add_le (by assumption) (Nat.le_of_lt (Nat.lt_of_not_le (mt subC_0.2 (by assumption))))) : sgQ (decide (x.num < 0)) ((x.num.natAbs * y.den) - (y.num.natAbs * x.den)) (x.den * y.den) = x + yQ s y)) (fun (h79 : ¬ (subC (x.num.natAbs * y.den) (y.num.natAbs * x.den) = 0)) => ((by first | contradiction | exact add_sm' hde (by assumption) | exact add_ge' hde (by assumption) (subC_0.1 (by assumption)) | exact add_le' hde (by assumption) (Nat.le_of_lt (Nat.lt_of_not_le (mt subC_0.2 (by assumption)))) | exact add_sm (by assumption) | exact add_ge (by assumption) (subC_0.1 (by assumption)) | exact add_le (by assumption) (Nat.le_of_lt (Nat.lt_of_not_le (mt subC_0.2 (by assumption))))) : sgQ s ((y.num.natAbs * x.den) - (x.num.natAbs * y.den)) (x.den * y.den) = x + yQ s y)))) (fun (h80 : ¬ ((!(decide ((denL x.den) = (denL y.den)))) = true)) => have hde := (show x.den = y.den from denL_inj x.den_nz y.den_nz (by have h := h80; simpa using h)); And.intro (fun (h81 : (decide (x.num < 0)) = s) => ((by first | contradiction | exact add_sm' hde (by assumption) | exact add_ge' hde (by assumption) (subC_0.1 (by assumption)) | exact add_le' hde (by assumption) (Nat.le_of_lt (Nat.lt_of_not_le (mt subC_0.2 (by assumption)))) | exact add_sm (by assumption) | exact add_ge (by assumption) (subC_0.1 (by assumption)) | exact add_le (by assumption) (Nat.le_of_lt (Nat.lt_of_not_le (mt subC_0.2 (by assumption))))) : sgQ s (x.num.natAbs + y.num.natAbs) x.den = x + yQ s y)) (fun (h82 : ¬ ((decide (x.num < 0)) = s)) => And.intro (fun (h83 : subC x.num.natAbs y.num.natAbs = 0) => ((by first | contradiction | exact add_sm' hde (by assumption) | exact add_ge' hde (by assumption) (subC_0.1 (by assumption)) | exact add_le' hde (by assumption) (Nat.le_of_lt (Nat.lt_of_not_le (mt subC_0.2 (by assumption)))) | exact add_sm (by assumption) | exact add_ge (by assumption) (subC_0.1 (by assumption)) | exact add_le (by assumption) (Nat.le_of_lt (Nat.lt_of_not_le (mt subC_0.2 (by assumption))))) : sgQ (decide (x.num < 0)) (x.num.natAbs - y.num.natAbs) x.den = x + yQ s y)) (fun (h84 : ¬ (subC x.num.natAbs y.num.natAbs = 0)) => ((by first | contradiction | exact add_sm' hde (by assumption) | exact add_ge' hde (by assumption) (subC_0.1 (by assumption)) | exact add_le' hde (by assumption) (Nat.le_of_lt (Nat.lt_of_not_le (mt subC_0.2 (by assumption)))) | exact add_sm (by assumption) | exact add_ge (by assumption) (subC_0.1 (by assumption)) | exact add_le (by assumption) (Nat.le_of_lt (Nat.lt_of_not_le (mt subC_0.2 (by assumption))))) : sgQ s (y.num.natAbs - x.num.natAbs) x.den = x + yQ s y))))))⟩)
abbrev radd_c : Ctr Tryz.prog := FI.c radd_k
end Go.Proofs.YtcjgaaibflcdiaaGreat.Sx

namespace Go.Proofs.YtcjgaaibflcdiaaGreat.Sx
open Go Go.Proofs
set_option linter.unusedVariables false
set_option linter.unusedSimpArgs false
set_option maxRecDepth 20000
set_option maxHeartbeats 4000000
abbrev raddp_i : FI := ⟨52, [.rat, .rat], [(.n 68719476736), (.n 68719476736)], fun _ => [], fun b z => (fun (x : Rat) (y : Rat) => .c (.agg [.dt .rat (.n ((b0 b).nb + (b1 b).nb + 1)) (x + y)])) z.1 z.2⟩
theorem raddp_k : raddp_i.OK Tryz.prog := mkF hmix 10 Tryz.func52 rfl rfl (by decide) [(92, .c radd_c)] (fun _ => rfl) (fun _ => rfl) (fun _ _ => rfl) (fun (x : Rat) (y : Rat) b hx hp => agg_rat (add_bnd' (Bnds.h2 hx).1 (Bnds.h2 hx).2)) (fun (x : Rat) (y : Rat) hx hp => by
 exact ⟨.nil, kcast (by kernel_rfl) ((by rw [yQ_self] : x + yQ (decide (y.num < 0)) y = x + y))⟩)
abbrev raddp_c : Ctr Tryz.prog := FI.c raddp_k
abbrev rsub_i : FI := ⟨51, [.rat, .rat], [(.n 68719476736), (.n 68719476736)], fun _ => [], fun b z => (fun (x : Rat) (y : Rat) => .c (.agg [.dt .rat (.n ((b0 b).nb + (b1 b).nb + 1)) (x - y)])) z.1 z.2⟩
theorem rsub_k : rsub_i.OK Tryz.prog := mkF hmix 11 Tryz.func51 rfl rfl (by decide) [(92, .c radd_c)] (fun _ => rfl) (fun _ => rfl) (fun _ _ => rfl) (fun (x : Rat) (y : Rat) b hx hp => agg_rat (sub_bnd' (Bnds.h2 hx).1 (Bnds.h2 hx).2)) (fun (x : Rat) (y : Rat) hx hp => by
 exact ⟨.nil, kcast (by kernel_rfl) ((by rw [show decide (¬ (y.num < 0)) = !decide (y.num < 0) from decide_not, yQ_neg, Rat.sub_eq_add_neg] : x + yQ (decide (¬ (y.num < 0))) y = x - y))⟩)
abbrev rsub_c : Ctr Tryz.prog := FI.c rsub_k
abbrev rcopied_i : FI := ⟨169, [.rat], [(.n 1099511627776)], fun _ => [], fun b z => (fun (x : Rat) => .c (.agg [.dt .rat (b0 b) x])) z⟩
theorem rcopied_k : rcopied_i.OK Tryz.prog := mkF hmix 12 Tryz.func169 rfl rfl (by decide) [(163, .c cloneM_c)] (fun _ => rfl) (fun _ => rfl) (fun _ _ => rfl) (fun (x : Rat) b hx hp => agg_rat (Bnds.h1 hx)) (fun (x : Rat) hx hp => by
 have hx0 : Bnd .rat (.n 1099511627776) x := hx
 exact ⟨.h 1 7 (.c cloneD_c) (.h 1 8 (.rat x 1099511627776) (.nil)), kcast (by kernel_rfl) (I (Eq.refl (decide (x.num < 0))) (I (Eq.refl x.num.natAbs) (I (Eq.refl (denL x.den)) (I (hx0.1 : lt2 x.num.natAbs 1099511627776) (I (hx0.2 : le2 x.den 1099511627776) ((Eq.refl x)))))))⟩)
abbrev rcopied_c : Ctr Tryz.prog := FI.c rcopied_k
abbrev rquo_i : FI := ⟨54, [.rat, .rat], [(.n 68719476736), (.n 68719476736)], fun _ => [], fun b z => (fun (x : Rat) (y : Rat) => .tup [.agg [.dt .rat (.n ((b0 b).nb + (b1 b).nb)) (x / y)], .one (.dt (.int .i64) (.n 3) (quoC y))]) z.1 z.2⟩
theorem rquo_k : rquo_i.OK Tryz.prog := mkF hmix 58 Tryz.func54 rfl rfl (by decide) [(53, .c rsign_c), (94, .c parts_c), (95, .c short_c), (96, .c reduce_c), (97, .c mul_c), (98, .c rden_c)] (fun _ => rfl) (fun _ => rfl) (fun _ _ => rfl) (fun (x : Rat) (y : Rat) b hx hp => tup_cons (agg_rat (quo_bnd (Bnds.h2 hx).1 (Bnds.h2 hx).2)) (tup_cons (one_ok (quoC_b y) rfl) tup_nil)) (fun (x : Rat) (y : Rat) hx hp => by
 exact ⟨.nil, kcast (by kernel_rfl) (And.intro (fun (h1 : sgnQ y = 0) => And.intro (quo_0 (sgnQ_0.1 (by assumption)) : 0 = x / y) ((if_pos (sgnQ_0.1 (by assumption))).symm : 3 = quoC y)) (fun (h2 : ¬ (sgnQ y = 0)) => have hy0 := mt sgnQ_0.2 (by assumption); And.intro (fun (h3 : pb x = true) => And.intro (fun (h4 : pb y = true) => have hpx := pb_eq (x := x) (by assumption); have hpy := pb_eq (x := y) (by assumption); I (Nat.mul_pos hpx.2.2 (hpy.1 ▸ Nat.pos_of_ne_zero hy0) : 0 < (pd x) * (pn y)) (And.intro (by first | exact quo_sg hy0 | (rw [hpx.1, hpy.1, hpx.2.1, hpy.2.1]; exact quo_sg hy0) : sgQ (decide ((decide (x.num < 0)) ≠ (decide (y.num < 0)))) ((pn x) * (pd y)) ((pd x) * (pn y)) = x / y) ((if_neg hy0).symm : 0 = quoC y))) (fun (h5 : ¬ (pb y = true)) => And.intro (by first | exact quo_sg hy0 | (rw [hpx.1, hpy.1, hpx.2.1, hpy.2.1]; exact quo_sg hy0) : sgQ (decide ((decide (x.num < 0)) ≠ (decide (y.num < 0)))) (x.num.natAbs * y.den) (x.den * y.num.natAbs) = x / y) ((if_neg hy0).symm : 0 = quoC y))) (fun (h6 : ¬ (pb x = true)) => And.intro (by first | exact quo_sg hy0 | (rw [hpx.1, hpy.1, hpx.2.1, hpy.2.1]; exact quo_sg hy0) : sgQ (decide ((decide (x.num < 0)) ≠ (decide (y.num < 0)))) (x.num.natAbs * y.den) (x.den * y.num.natAbs) = x / y) ((if_neg hy0).symm : 0 = quoC y))))⟩)
abbrev rquo_c : Ctr Tryz.prog := FI.c rquo_k
end Go.Proofs.YtcjgaaibflcdiaaGreat.Sx

namespace Go.Proofs.YtcjgaaibflcdiaaGreat.Sx
open Go Go.Proofs
set_option linter.unusedVariables false
set_option linter.unusedSimpArgs false
set_option maxRecDepth 20000
set_option maxHeartbeats 4000000
abbrev rcmp_i : FI := ⟨168, [.rat, .rat], [(.n 68719476736), (.n 68719476736)], fun _ => [], fun b z => (fun (x : Rat) (y : Rat) => .c (.one (.dt (.int .i64) (.n 1) (cmpQ x y)))) z.1 z.2⟩
theorem rcmp_k : rcmp_i.OK Tryz.prog := mkF hmix 80 Tryz.func168 rfl rfl (by decide) [(53, .c rsign_c), (94, .c parts_c), (97, .c mul_c), (98, .c rden_c), (149, .c equ_c), (193, .c cmp_c)] (fun _ => rfl) (fun _ => rfl) (fun _ _ => rfl) (fun (x : Rat) (y : Rat) b hx hp => one_ok (cmpQ_abs x y) rfl) (fun (x : Rat) (y : Rat) hx hp => by
 exact ⟨.nil, kcast (by kernel_rfl) (And.intro (fun (h1 : sgnQ x ≠ sgnQ y) => And.intro (fun (h2 : sgnQ x < sgnQ y) => (by first | exact ((cmp_sgn (by assumption)).1 (by assumption)).symm | exact ((cmp_sgn (by assumption)).2 (by assumption)).symm | (rw [cmp_neg hs (by assumption)]; first | exact cmpL_den hde | exact congrArg Neg.neg (cmpL_den hde) | rfl | (rw [cmpL_w hpx hpy]; unfold cmpN; split <;> (try split) <;> first | rfl | omega)) | (rw [cmp_pos hs (by assumption)]; first | exact cmpL_den hde | exact congrArg Neg.neg (cmpL_den hde) | rfl | (rw [cmpL_w hpx hpy]; unfold cmpN; split <;> (try split) <;> first | rfl | omega)) : (-1) = cmpQ x y)) (fun (h3 : ¬ (sgnQ x < sgnQ y)) => (by first | exact ((cmp_sgn (by assumption)).1 (by assumption)).symm | exact ((cmp_sgn (by assumption)).2 (by assumption)).symm | (rw [cmp_neg hs (by assumption)]; first | exact cmpL_den hde | exact congrArg Neg.neg (cmpL_den hde) | rfl | (rw [cmpL_w hpx hpy]; unfold cmpN; split <;> (try split) <;> first | rfl | omega)) | (rw [cmp_pos hs (by assumption)]; first | exact cmpL_den hde | exact congrArg Neg.neg (cmpL_den hde) | rfl | (rw [cmpL_w hpx hpy]; unfold cmpN; split <;> (try split) <;> first | rfl | omega)) : 1 = cmpQ x y))) (fun (h4 : ¬ (sgnQ x ≠ sgnQ y)) => have hs := (show sgnQ x = sgnQ y by omega); And.intro (fun (h5 : decide ((denL x.den) = (denL y.den)) = true) => have hde := (show x.den = y.den from denL_inj x.den_nz y.den_nz (by have h := h5; simpa using h)); And.intro (fun (h6 : x.num < 0) => (by first | exact ((cmp_sgn (by assumption)).1 (by assumption)).symm | exact ((cmp_sgn (by assumption)).2 (by assumption)).symm | (rw [cmp_neg hs (by assumption)]; first | exact cmpL_den hde | exact congrArg Neg.neg (cmpL_den hde) | rfl | (rw [cmpL_w hpx hpy]; unfold cmpN; split <;> (try split) <;> first | rfl | omega)) | (rw [cmp_pos hs (by assumption)]; first | exact cmpL_den hde | exact congrArg Neg.neg (cmpL_den hde) | rfl | (rw [cmpL_w hpx hpy]; unfold cmpN; split <;> (try split) <;> first | rfl | omega)) : -(cmpN x.num.natAbs y.num.natAbs) = cmpQ x y)) (fun (h7 : ¬ (x.num < 0)) => (by first | exact ((cmp_sgn (by assumption)).1 (by assumption)).symm | exact ((cmp_sgn (by assumption)).2 (by assumption)).symm | (rw [cmp_neg hs (by assumption)]; first | exact cmpL_den hde | exact congrArg Neg.neg (cmpL_den hde) | rfl | (rw [cmpL_w hpx hpy]; unfold cmpN; split <;> (try split) <;> first | rfl | omega)) | (rw [cmp_pos hs (by assumption)]; first | exact cmpL_den hde | exact congrArg Neg.neg (cmpL_den hde) | rfl | (rw [cmpL_w hpx hpy]; unfold cmpN; split <;> (try split) <;> first | rfl | omega)) : cmpN x.num.natAbs y.num.natAbs = cmpQ x y))) (fun (h8 : ¬ (decide ((denL x.den) = (denL y.den)) = true)) => And.intro (fun (h9 : pb x = true) => And.intro (fun (h10 : pb y = true) => have hpx := pb_eq (x := x) (by assumption); have hpy := pb_eq (x := y) (by assumption); And.intro (fun (h11 : (pn x) * (pd y) < (pn y) * (pd x)) => And.intro (fun (h12 : x.num < 0) => (by first | exact ((cmp_sgn (by assumption)).1 (by assumption)).symm | exact ((cmp_sgn (by assumption)).2 (by assumption)).symm | (rw [cmp_neg hs (by assumption)]; first | exact cmpL_den hde | exact congrArg Neg.neg (cmpL_den hde) | rfl | (rw [cmpL_w hpx hpy]; unfold cmpN; split <;> (try split) <;> first | rfl | omega)) | (rw [cmp_pos hs (by assumption)]; first | exact cmpL_den hde | exact congrArg Neg.neg (cmpL_den hde) | rfl | (rw [cmpL_w hpx hpy]; unfold cmpN; split <;> (try split) <;> first | rfl | omega)) : 1 = cmpQ x y)) (fun (h13 : ¬ (x.num < 0)) => (by first | exact ((cmp_sgn (by assumption)).1 (by assumption)).symm | exact ((cmp_sgn (by assumption)).2 (by assumption)).symm | (rw [cmp_neg hs (by assumption)]; first | exact cmpL_den hde | exact congrArg Neg.neg (cmpL_den hde) | rfl | (rw [cmpL_w hpx hpy]; unfold cmpN; split <;> (try split) <;> first | rfl | omega)) | (rw [cmp_pos hs (by assumption)]; first | exact cmpL_den hde | exact congrArg Neg.neg (cmpL_den hde) | rfl | (rw [cmpL_w hpx hpy]; unfold cmpN; split <;> (try split) <;> first | rfl | omega)) : (-1) = cmpQ x y))) (fun (h14 : ¬ ((pn x) * (pd y) < (pn y) * (pd x))) => And.intro (fun (h15 : (pn y) * (pd x) < (pn x) * (pd y)) => And.intro (fun (h16 : x.num < 0) => (by first | exact ((cmp_sgn (by assumption)).1 (by assumption)).symm | exact ((cmp_sgn (by assumption)).2 (by assumption)).symm | (rw [cmp_neg hs (by assumption)]; first | exact cmpL_den hde | exact congrArg Neg.neg (cmpL_den hde) | rfl | (rw [cmpL_w hpx hpy]; unfold cmpN; split <;> (try split) <;> first | rfl | omega)) | (rw [cmp_pos hs (by assumption)]; first | exact cmpL_den hde | exact congrArg Neg.neg (cmpL_den hde) | rfl | (rw [cmpL_w hpx hpy]; unfold cmpN; split <;> (try split) <;> first | rfl | omega)) : (-1) = cmpQ x y)) (fun (h17 : ¬ (x.num < 0)) => (by first | exact ((cmp_sgn (by assumption)).1 (by assumption)).symm | exact ((cmp_sgn (by assumption)).2 (by assumption)).symm | (rw [cmp_neg hs (by assumption)]; first | exact cmpL_den hde | exact congrArg Neg.neg (cmpL_den hde) | rfl | (rw [cmpL_w hpx hpy]; unfold cmpN; split <;> (try split) <;> first | rfl | omega)) | (rw [cmp_pos hs (by assumption)]; first | exact cmpL_den hde | exact congrArg Neg.neg (cmpL_den hde) | rfl | (rw [cmpL_w hpx hpy]; unfold cmpN; split <;> (try split) <;> first | rfl | omega)) : 1 = cmpQ x y))) (fun (h18 : ¬ ((pn y) * (pd x) < (pn x) * (pd y))) => And.intro (fun (h19 : x.num < 0) => (by first | exact ((cmp_sgn (by assumption)).1 (by assumption)).symm | exact ((cmp_sgn (by assumption)).2 (by assumption)).symm | (rw [cmp_neg hs (by assumption)]; first | exact cmpL_den hde | exact congrArg Neg.neg (cmpL_den hde) | rfl | (rw [cmpL_w hpx hpy]; unfold cmpN; split <;> (try split) <;> first | rfl | omega)) | (rw [cmp_pos hs (by assumption)]; first | exact cmpL_den hde | exact congrArg Neg.neg (cmpL_den hde) | rfl | (rw [cmpL_w hpx hpy]; unfold cmpN; split <;> (try split) <;> first | rfl | omega)) : 0 = cmpQ x y)) (fun (h20 : ¬ (x.num < 0)) => (by first | exact ((cmp_sgn (by assumption)).1 (by assumption)).symm | exact ((cmp_sgn (by assumption)).2 (by assumption)).symm | (rw [cmp_neg hs (by assumption)]; first | exact cmpL_den hde | exact congrArg Neg.neg (cmpL_den hde) | rfl | (rw [cmpL_w hpx hpy]; unfold cmpN; split <;> (try split) <;> first | rfl | omega)) | (rw [cmp_pos hs (by assumption)]; first | exact cmpL_den hde | exact congrArg Neg.neg (cmpL_den hde) | rfl | (rw [cmpL_w hpx hpy]; unfold cmpN; split <;> (try split) <;> first | rfl | omega)) : 0 = cmpQ x y))))) (fun (h21 : ¬ (pb y = true)) => And.intro (fun (h22 : x.num < 0) => (by first | exact ((cmp_sgn (by assumption)).1 (by assumption)).symm | exact ((cmp_sgn (by assumption)).2 (by assumption)).symm | (rw [cmp_neg hs (by assumption)]; first | exact cmpL_den hde | exact congrArg Neg.neg (cmpL_den hde) | rfl | (rw [cmpL_w hpx hpy]; unfold cmpN; split <;> (try split) <;> first | rfl | omega)) | (rw [cmp_pos hs (by assumption)]; first | exact cmpL_den hde | exact congrArg Neg.neg (cmpL_den hde) | rfl | (rw [cmpL_w hpx hpy]; unfold cmpN; split <;> (try split) <;> first | rfl | omega)) : -(cmpN (x.num.natAbs * y.den) (y.num.natAbs * x.den)) = cmpQ x y)) (fun (h23 : ¬ (x.num < 0)) => (by first | exact ((cmp_sgn (by assumption)).1 (by assumption)).symm | exact ((cmp_sgn (by assumption)).2 (by assumption)).symm | (rw [cmp_neg hs (by assumption)]; first | exact cmpL_den hde | exact congrArg Neg.neg (cmpL_den hde) | rfl | (rw [cmpL_w hpx hpy]; unfold cmpN; split <;> (try split) <;> first | rfl | omega)) | (rw [cmp_pos hs (by assumption)]; first | exact cmpL_den hde | exact congrArg Neg.neg (cmpL_den hde) | rfl | (rw [cmpL_w hpx hpy]; unfold cmpN; split <;> (try split) <;> first | rfl | omega)) : cmpN (x.num.natAbs * y.den) (y.num.natAbs * x.den) = cmpQ x y)))) (fun (h24 : ¬ (pb x = true)) => And.intro (fun (h25 : x.num < 0) => (by first | exact ((cmp_sgn (by assumption)).1 (by assumption)).symm | exact ((cmp_sgn (by assumption)).2 (by assumption)).symm | (rw [cmp_neg hs (by assumption)]; first | exact cmpL_den hde | exact congrArg Neg.neg (cmpL_den hde) | rfl | (rw [cmpL_w hpx hpy]; unfold cmpN; split <;> (try split) <;> first | rfl | omega)) | (rw [cmp_pos hs (by assumption)]; first | exact cmpL_den hde | exact congrArg Neg.neg (cmpL_den hde) | rfl | (rw [cmpL_w hpx hpy]; unfold cmpN; split <;> (try split) <;> first | rfl | omega)) : -(cmpN (x.num.natAbs * y.den) (y.num.natAbs * x.den)) = cmpQ x y)) (fun (h26 : ¬ (x.num < 0)) => (by first | exact ((cmp_sgn (by assumption)).1 (by assumption)).symm | exact ((cmp_sgn (by assumption)).2 (by assumption)).symm | (rw [cmp_neg hs (by assumption)]; first | exact cmpL_den hde | exact congrArg Neg.neg (cmpL_den hde) | rfl | (rw [cmpL_w hpx hpy]; unfold cmpN; split <;> (try split) <;> first | rfl | omega)) | (rw [cmp_pos hs (by assumption)]; first | exact cmpL_den hde | exact congrArg Neg.neg (cmpL_den hde) | rfl | (rw [cmpL_w hpx hpy]; unfold cmpN; split <;> (try split) <;> first | rfl | omega)) : cmpN (x.num.natAbs * y.den) (y.num.natAbs * x.den) = cmpQ x y))))))⟩)
abbrev rcmp_c : Ctr Tryz.prog := FI.c rcmp_k
end Go.Proofs.YtcjgaaibflcdiaaGreat.Sx

namespace Go.Proofs.YtcjgaaibflcdiaaGreat.Sx
open Go Go.Proofs
set_option linter.unusedVariables false
set_option linter.unusedSimpArgs false
set_option maxRecDepth 20000
set_option maxHeartbeats 4000000
abbrev rsame_i : FI := ⟨145, [.rat, .rat], [(.n 1099511627776), (.n 1099511627776)], fun _ => [], fun b z => (fun (x : Rat) (y : Rat) => .c (.one (.dt .bool .u (decide (x = y))))) z.1 z.2⟩
theorem rsame_k : rsame_i.OK Tryz.prog := mkF hmix 24 Tryz.func145 rfl rfl (by decide) [(149, .c equ_c)] (fun _ => rfl) (fun _ => rfl) (fun _ _ => rfl) (fun (x : Rat) (y : Rat) b hx hp => one_ok trivial rfl) (fun (x : Rat) (y : Rat) hx hp => by
 exact ⟨.nil, kcast (by kernel_rfl) (And.intro (fun (h1 : (decide (x.num < 0)) = (decide (y.num < 0))) => And.intro (fun (h2 : decide ((limbs x.num.natAbs) = (limbs y.num.natAbs)) = true) => (by first | exact same1 (by assumption) | exact same2 (by assumption) | exact same3 (by assumption) (by assumption) : decide ((denL x.den) = (denL y.den)) = decide (x = y))) (fun (h3 : ¬ (decide ((limbs x.num.natAbs) = (limbs y.num.natAbs)) = true)) => (by first | exact same1 (by assumption) | exact same2 (by assumption) | exact same3 (by assumption) (by assumption) : false = decide (x = y)))) (fun (h4 : ¬ ((decide (x.num < 0)) = (decide (y.num < 0)))) => (by first | exact same1 (by assumption) | exact same2 (by assumption) | exact same3 (by assumption) (by assumption) : false = decide (x = y))))⟩)
abbrev rsame_c : Ctr Tryz.prog := FI.c rsame_k
abbrev rmin_i : FI := ⟨109, [.rat, .rat], [(.n 68719476736), (.n 68719476736)], fun _ => [], fun b z => (fun (x : Rat) (y : Rat) => .c (.agg [.dt .rat (.n (max (b0 b).nb (b1 b).nb)) (minQ x y)])) z.1 z.2⟩
theorem rmin_k : rmin_i.OK Tryz.prog := mkF hmix 12 Tryz.func109 rfl rfl (by decide) [(168, .c rcmp_c), (169, .c rcopied_c)] (fun _ => rfl) (fun _ => rfl) (fun _ _ => rfl) (fun (x : Rat) (y : Rat) b hx hp => agg_rat (minQ_bnd (Bnds.h2 hx).1 (Bnds.h2 hx).2)) (fun (x : Rat) (y : Rat) hx hp => by
 exact ⟨.nil, kcast (by kernel_rfl) (And.intro (fun (h1 : cmpQ y x < 0) => (by first | exact (if_pos (by assumption)).symm | exact (if_neg (by assumption)).symm : y = minQ x y)) (fun (h2 : ¬ (cmpQ y x < 0)) => (by first | exact (if_pos (by assumption)).symm | exact (if_neg (by assumption)).symm : x = minQ x y)))⟩)
abbrev rmin_c : Ctr Tryz.prog := FI.c rmin_k
abbrev rmax_i : FI := ⟨110, [.rat, .rat], [(.n 68719476736), (.n 68719476736)], fun _ => [], fun b z => (fun (x : Rat) (y : Rat) => .c (.agg [.dt .rat (.n (max (b0 b).nb (b1 b).nb)) (maxQ x y)])) z.1 z.2⟩
theorem rmax_k : rmax_i.OK Tryz.prog := mkF hmix 12 Tryz.func110 rfl rfl (by decide) [(168, .c rcmp_c), (169, .c rcopied_c)] (fun _ => rfl) (fun _ => rfl) (fun _ _ => rfl) (fun (x : Rat) (y : Rat) b hx hp => agg_rat (maxQ_bnd (Bnds.h2 hx).1 (Bnds.h2 hx).2)) (fun (x : Rat) (y : Rat) hx hp => by
 exact ⟨.nil, kcast (by kernel_rfl) (And.intro (fun (h1 : 0 < cmpQ y x) => (by first | exact (if_pos (by assumption)).symm | exact (if_neg (by assumption)).symm : y = maxQ x y)) (fun (h2 : ¬ (0 < cmpQ y x)) => (by first | exact (if_pos (by assumption)).symm | exact (if_neg (by assumption)).symm : x = maxQ x y)))⟩)
abbrev rmax_c : Ctr Tryz.prog := FI.c rmax_k
end Go.Proofs.YtcjgaaibflcdiaaGreat.Sx

namespace Go.Proofs.YtcjgaaibflcdiaaGreat.Sx
open Go Go.Proofs
set_option linter.unusedVariables false
set_option linter.unusedSimpArgs false
set_option maxRecDepth 20000
set_option maxHeartbeats 4000000
abbrev xtrim_i : FO := ⟨129, [(.sl (.nat .u32))], [(.s 1099511627776 (.n 4294967295))], fun z => (fun (ls : List Nat) => [∀ u ∈ ls, u < 4294967296]) z, fun k b z => (fun (ls : List Nat) => .c (.one (.gs k ((limbs (valL ls)).length) 1 ((b0 b).len)))) z, fun b z => (fun (ls : List Nat) => .gro (.nat .u32) (.n 4294967295) (limbs (valL ls))) z⟩
theorem xtrim_k : xtrim_i.OK Tryz.prog := mkO hmix 23 22 Tryz.func129 rfl rfl (by decide) [] (fun _ => rfl) (fun _ _ _ => rfl) (fun _ _ => rfl) (fun _ _ _ => ⟨rfl, rfl⟩) (fun (ls : List Nat) k b hx hp => ⟨one_ok (Nat.le_trans (nl_valL (hp _ List.mem_cons_self)) (Bnds.h1 hx).sl.1) rfl, fun u hu => Nat.le_of_lt_succ (limbs_lt _ u hu)⟩) (fun (ls : List Nat) hx hp => by
 have hl0 : ls.length ≤ 1099511627776 := hx.1
 have hp0 : ∀ u ∈ ls, u < 4294967296 := hp _ (List.mem_cons_self)
 exact bodyO.g (.loop [.s 3 (.nat .i64) (.n 1099511627776)] (fun (k : Nat) => k ≤ ls.length ∧ valL (ls.take k) = valL ls) (fun (k : Nat) => k) (fun (k : Nat) => .cond (.h 2 5 (.i .sub) (.cond (.h 3 1 (.i .sub) (.nil)) (.h 4 0 (.mk (.gro (.nat .u32) (.n 4294967295))) (.nil)))) (.h 4 0 (.mk (.gro (.nat .u32) (.n 4294967295))) (.nil)))) (kcast (by kernel_rfl) (I (⟨Nat.le_refl _, by rw [List.take_length]⟩ : ls.length ≤ ls.length ∧ valL (ls.take ls.length) = valL ls) (fun (k : Nat) (hb1 : HB [.s 3 (.nat .i64) (.n 1099511627776)] k) (hC : k ≤ ls.length ∧ valL (ls.take k) = valL ls) => have hv6 := (show k ≤ 1099511627776 from hb1); have hk := hC.1; And.intro (fun (h2 : 0 < k) => I (by omega : 1 ≤ k) (I (by omega : k - 1 < ls.length) (And.intro (fun (h3 : ls.getD (k - 1) 0 = 0) => I (by omega : 1 ≤ k) (And.intro (⟨by omega, trim_step hC.1 (by omega) hC.2 (by omega)⟩ : k - 1 ≤ ls.length ∧ valL (ls.take (k - 1)) = valL ls) (by omega : k - 1 < k))) (fun (h4 : ¬ (ls.getD (k - 1) 0 = 0)) => I (by omega : k ≤ ls.length) (I (rfl : 0 = ([] : List Nat).length) (And.intro ((List.nil_append _).trans (trim_end hp0 hC.1 hC.2 (by omega)) : ([] : List Nat) ++ (ls.take k) = limbs (valL ls)) ((by rw [← trim_end hp0 hC.1 hC.2 (by omega)]; simp : 0 + (ls.take k).length = (limbs (valL ls)).length)))))))) (fun (h5 : ¬ (0 < k)) => I (by omega : k ≤ ls.length) (I (rfl : 0 = ([] : List Nat).length) (And.intro ((List.nil_append _).trans (trim_end hp0 hC.1 hC.2 (by omega)) : ([] : List Nat) ++ (ls.take k) = limbs (valL ls)) ((by rw [← trim_end hp0 hC.1 hC.2 (by omega)]; simp : 0 + (ls.take k).length = (limbs (valL ls)).length)))))))))
abbrev xtrim_R (k : Nat) (b : List Bd) (ls : List Nat) : WV := .c (.one (.gs k ((limbs (valL ls)).length) 1 ((b0 b).len)))
abbrev xtrim_B (b : List Bd) (ls : List Nat) : WB := .gro (.nat .u32) (.n 4294967295) (limbs (valL ls))
theorem xtrim_sig (d : Nat) (ls : List Nat) (hx : Bnds [(.sl (.nat .u32))] [(.s 1099511627776 (.n 4294967295))] ls) (hp : ∀ c0 ∈ ([∀ u ∈ ls, u < 4294967296] : List Prop), c0) : SigG Tryz.prog 129 (argsE [(.sl (.nat .u32))] ls) [] (xtrim_R d [(.s 1099511627776 (.n 4294967295))] ls).exp [(d, some (xtrim_B [(.s 1099511627776 (.n 4294967295))] ls).exp)] := xtrim_k.sig d ls hx hp
theorem xtrimD_ok (b : List Bd) (ls : List Nat) (hx : Bnds [.sl (.nat .u32)] b ls) (hp : ∀ p ∈ ([∀ u ∈ ls, u < 4294967296] : List Prop), p) : (WV.c (.one (.dt .mag (.n (32 * (b0 b).len)) (valL ls)))).ok := one_ok (lt2_valL (hp _ List.mem_cons_self) (Bnds.h1 hx).sl.1) rfl
theorem xtrimD_sig (ls : List Nat) (hx : Bnds [.sl (.nat .u32)] [.s 1099511627776 (.n 4294967295)] ls) (hp : ∀ p ∈ ([∀ u ∈ ls, u < 4294967296] : List Prop), p) (b : Bd) : Sig Tryz.prog 129 (argsE [.sl (.nat .u32)] ls) (WV.c (.one (.dt .mag b (valL ls)))).exp := by
  have h := frzO (xtrim_sig 0 ls hx hp) (by decide) rfl .u
  rw [magE (valL ls) .u b] at h; exact h
def xtrim_d : Ctr Tryz.prog := ⟨129, [.sl (.nat .u32)], [.s 1099511627776 (.n 4294967295)], fun z => [∀ u ∈ z, u < 4294967296], fun b z => .c (.one (.dt .mag (.n (32 * (b0 b).len)) (valL z))), fun z hx hp => xtrimD_sig z hx hp _, fun _ _ => rfl, fun b z hx hp => xtrimD_ok b z hx hp⟩
theorem xtrimM_sig (x : Nat) (hx : Bnds [.mag] [.n 1099511627776] x) (b : Bd) : Sig Tryz.prog 129 (argsE [.mag] x) (WV.c (.one (.dt .mag b x))).exp := by
  have h := xtrimD_sig (limbs x) ⟨Nat.le_trans (limbs_len_le (Nat.le_of_lt hx)) (by decide), (Bnd.limbs hx).2⟩ (by intro p hp; simp only [List.mem_cons, List.not_mem_nil, or_false] at hp; subst hp; exact limbs_lt x) b
  rw [valL_limbs, ← argsE_mag] at h; exact h
def xtrim_m : Ctr Tryz.prog := ⟨129, [.mag], [.n 1099511627776], fun z => [], fun b z => .c (.one (.dt .mag (b0 b) z)), fun z hx hp => xtrimM_sig z hx _, fun _ _ => rfl, fun b z hx hp => one_ok (Bnds.h1 hx) rfl⟩
abbrev xof_i : FI := ⟨130, [(.nat .u64)], [(.n 18446744073709551615)], fun _ => [], fun b z => (fun (x : Nat) => .c (.one (.dt .mag (.n (Nat.log2 (b0 b).nb + 1)) (x)))) z⟩
theorem xof_k : xof_i.OK Tryz.prog := mkF hmix 10 Tryz.func130 rfl rfl (by decide) [] (fun _ => rfl) (fun _ => rfl) (fun _ _ => rfl) (fun (x : Nat) b hx hp => one_ok (lt2_log (Bnds.h1 hx).nat) rfl) (fun (x : Nat) hx hp => by
 have hx0 : x ≤ 18446744073709551615 := hx
 exact ⟨.h 1 5 (.mk (.im (.nat .u32) (.n 4294967295))) (.h 1 6 (.c xtrim_d) (.nil)), kcast (by kernel_rfl) (I (by intro u hu; simp only [List.mem_cons, List.not_mem_nil, or_false] at hu; omega : ∀ u ∈ [x % 4294967296, x / 2 ^ 32], u < 4294967296) ((by simp only [valL]; omega : valL [x % 4294967296, x / 2 ^ 32] = x)))⟩)
abbrev xof_c : Ctr Tryz.prog := FI.c xof_k
abbrev xvalid_i : FI := ⟨121, [(.sl (.nat .u32))], [(.s 1099511627776 (.n 4294967295))], fun z => (fun (ls : List Nat) => [ls.length = 0 ∨ ls.getD (ls.length - 1) 0 ≠ 0]) z, fun b z => .c (.one (.vl (.bool true)))⟩
theorem xvalid_k : xvalid_i.OK Tryz.prog := mkF hmix 15 Tryz.func121 rfl rfl (by decide) [] (fun _ => rfl) (fun _ => rfl) (fun _ _ => rfl) (fun (ls : List Nat) b hx hp => vl_ok rfl) (fun (ls : List Nat) hx hp => by
 have hl0 : ls.length ≤ 1099511627776 := hx.1
 have hp0 : ls.length = 0 ∨ ls.getD (ls.length - 1) 0 ≠ 0 := hp _ (List.mem_cons_self)
 exact ⟨.cond (.nil) (.h 1 7 (.i .sub) (.nil)), kcast (by kernel_rfl) (And.intro (fun (h1 : ls.length = 0) => trivial) (fun (h2 : ¬ (ls.length = 0)) => I (by omega : 1 ≤ ls.length) (I (by omega : ls.length - 1 < ls.length) ((by omega : ls.getD (ls.length - 1) 0 ≠ 0)))))⟩)
abbrev xvalid_c : Ctr Tryz.prog := FI.c xvalid_k
abbrev xcmp_i : FI := ⟨66, [.mag, .mag], [(.n 1099511627776), (.n 1099511627776)], fun _ => [], fun b z => (fun (x : Nat) (y : Nat) => .c (.one (.dt (.int .i64) (.n 1) (cmpN x y)))) z.1 z.2⟩
theorem xcmp_k : xcmp_i.OK Tryz.prog := mkF hmix 41 Tryz.func66 rfl rfl (by decide) [] (fun _ => rfl) (fun _ => rfl) (fun _ _ => rfl) (fun (x : Nat) (y : Nat) b hx hp => one_ok (cmp_abs x y) rfl) (fun (x : Nat) (y : Nat) hx hp => by
 have hx0 : lt2 x 1099511627776 := hx.1
 have hl0 : (limbs x).length ≤ 34359738369 := limbs_len_le (Nat.le_of_lt hx0)
 have hx1 : lt2 y 1099511627776 := hx.2
 have hl1 : (limbs y).length ≤ 34359738369 := limbs_len_le (Nat.le_of_lt hx1)
 exact ⟨.cond (.nil) (.loop [.s 5 (.int .i64) (.n 68719476736)] (fun (z : Int) => CmpI x y z) (fun (z : Int) => (z + 1).toNat) (fun (z : Int) => .cond (.h 8 2 (.ix z.toNat) (.h 8 6 (.ix z.toNat) (.cond (.nil) (.h 10 2 (.ix z.toNat) (.h 10 6 (.ix z.toNat) (.nil)))))) (.nil))), kcast (by kernel_rfl) (And.intro (fun (h1 : (limbs x).length ≠ (limbs y).length) => And.intro (fun (h2 : (limbs x).length < (limbs y).length) => (by first | exact (cmp_len1 (by omega)).symm | exact ((hC.at (by omega) (by omega)).2.1 (by omega)).symm : (-1) = cmpN x y)) (fun (h3 : ¬ ((limbs x).length < (limbs y).length)) => (by first | exact (cmp_len2 (by omega)).symm | exact ((hC.at (by omega) (by omega)).2.2 (by omega)).symm : 1 = cmpN x y))) (fun (h4 : ¬ ((limbs x).length ≠ (limbs y).length)) => I (CmpI.start (by omega) : CmpI x y ((((limbs x).length : Nat) : Int) - 1)) (fun (z : Int) (hb5 : HB [.s 5 (.int .i64) (.n 68719476736)] z) (hC : CmpI x y z) => have hv12 := (show Int.natAbs z ≤ 68719476736 from hb5); have hC0 := hC.h0; have hC1 := hC.h1; And.intro (fun (h6 : 0 ≤ z) => I (by omega : z = ((z.toNat : Nat) : Int)) (I (by omega : z.toNat < (limbs x).length) (I (by omega : z = ((z.toNat : Nat) : Int)) (I (by omega : z.toNat < (limbs y).length) (And.intro (fun (h7 : (limbs x).getD z.toNat 0 < (limbs y).getD z.toNat 0) => (by first | exact (cmp_len1 (by omega)).symm | exact ((hC.at (by omega) (by omega)).2.1 (by omega)).symm : (-1) = cmpN x y)) (fun (h8 : ¬ ((limbs x).getD z.toNat 0 < (limbs y).getD z.toNat 0)) => I (by omega : z = ((z.toNat : Nat) : Int)) (I (by omega : z.toNat < (limbs x).length) (I (by omega : z = ((z.toNat : Nat) : Int)) (I (by omega : z.toNat < (limbs y).length) (And.intro (fun (h9 : (limbs y).getD z.toNat 0 < (limbs x).getD z.toNat 0) => (by first | exact (cmp_len2 (by omega)).symm | exact ((hC.at (by omega) (by omega)).2.2 (by omega)).symm : 1 = cmpN x y)) (fun (h10 : ¬ ((limbs y).getD z.toNat 0 < (limbs x).getD z.toNat 0)) => I (show Int.natAbs (z - 1) ≤ 68719476736 by omega : Bnd (.int .i64) (.n 68719476736) (z - 1)) (And.intro ((hC.at (by omega) (by omega)).1 (by omega) : CmpI x y (z - 1)) (by omega : ((z - 1) + 1).toNat < (z + 1).toNat))))))))))))) (fun (h11 : ¬ (0 ≤ z)) => ((hC.fin (by omega)).symm : 0 = cmpN x y)))))⟩)
abbrev xcmp_c : Ctr Tryz.prog := FI.c xcmp_k
end Go.Proofs.YtcjgaaibflcdiaaGreat.Sx

namespace Go.Proofs.YtcjgaaibflcdiaaGreat.Sx
open Go Go.Proofs
set_option linter.unusedVariables false
set_option linter.unusedSimpArgs false
set_option maxRecDepth 20000
set_option maxHeartbeats 4000000
abbrev xminus_i : FI := ⟨170, [.mag, .mag], [(.n 1099511627776), (.n 1099511627776)], fun z => (fun (x : Nat) (y : Nat) => [y ≤ x]) z.1 z.2, fun b z => (fun (x : Nat) (y : Nat) => .c (.one (.dt .mag (b0 b) (x - y)))) z.1 z.2⟩
theorem xminus_k : xminus_i.OK Tryz.prog := mkF hmix 50 Tryz.func170 rfl rfl (by decide) [] (fun _ => rfl) (fun _ => rfl) (fun _ _ => rfl) (fun (x : Nat) (y : Nat) b hx hp => one_ok (Bnd.magLe (Bnds.h2 hx).1 (Nat.sub_le _ _)) rfl) (fun (x : Nat) (y : Nat) hx hp => by
 have hx0 : lt2 x 1099511627776 := hx.1
 have hl0 : (limbs x).length ≤ 34359738369 := limbs_len_le (Nat.le_of_lt hx0)
 have hx1 : lt2 y 1099511627776 := hx.2
 have hl1 : (limbs y).length ≤ 34359738369 := limbs_len_le (Nat.le_of_lt hx1)
 have hp0 : y ≤ x := hp _ (List.mem_cons_self)
 have hlen := nl_mono' hp0
 exact ⟨.h 1 2 (.mk (.arr (.nat .u32) (.n 4294967295))) (.loop [.s 7 (.nat .i64) (.n 34359738369), .s 6 (.nat .u64) (.n 1), .a 12 (.nat .u32) (.n 4294967295)] (fun ((i, c, out) : Nat × Nat × List Nat) => SubI x y i c out) (fun ((i, c, out) : Nat × Nat × List Nat) => (limbs x).length - i) (fun ((i, c, out) : Nat × Nat × List Nat) => .cond (.cond (.cond (.h 14 4 (.i .sub) (.nil)) (.h 14 4 (.i .sub) (.nil))) (.cond (.h 14 4 (.i .sub) (.nil)) (.h 14 4 (.i .sub) (.nil)))) (.pre 15 (.frz 12 true [5]) (.h 15 1 (.c xtrim_d) (.nil))))), kcast (by kernel_rfl) (I (by omega : (limbs x).length = (limbs x).length) (I (SubI.start x y : SubI x y 0 0 (List.replicate ((limbs x).length) (0 : Nat))) (fun (i : Nat) (c : Nat) (out : List Nat) (hb1 : HB [.s 7 (.nat .i64) (.n 34359738369), .s 6 (.nat .u64) (.n 1), .a 12 (.nat .u32) (.n 4294967295)] (i, c, out)) (hI : SubI x y i c out) => have hv10 := (show i ≤ 34359738369 from hb1.1); have hv11 := (show c ≤ 1 from hb1.2.1); have hv12 := (show ∀ u ∈ out, u ≤ 4294967295 from hb1.2.2); have hIl := hI.hl; have hIi := hI.hi; have hIc := hI.hc; have hg1 := limbs_getD_lt x i; have hg2 := limbs_getD_lt y i; And.intro (fun (h2 : i < (limbs x).length) => And.intro (fun (h3 : i < (limbs y).length) => I (by omega : i < (limbs y).length) (I (by omega : i < (limbs x).length) (And.intro (fun (h4 : (limbs x).getD i 0 < c + ((limbs y).getD i 0)) => I (by omega : c + ((limbs y).getD i 0) ≤ ((limbs x).getD i 0) + 4294967296) (I (by omega : i < (limbs x).length) (I (by omega : i < out.length) (I (show (i + 1) ≤ 34359738369 by omega : Bnd (.nat .i64) (.n 34359738369) (i + 1)) (And.intro (by first | exact hI.lt (by omega) (by first | rfl | rw [getD_out (l := limbs y) (by omega), Nat.add_zero]) (by assumption) | exact hI.ge (by omega) (by first | rfl | rw [getD_out (l := limbs y) (by omega), Nat.add_zero]) (by assumption) : SubI x y (i + 1) 1 (out.set i (((((limbs x).getD i 0) + 4294967296) - (c + ((limbs y).getD i 0))) % 4294967296))) (by omega : (limbs x).length - (i + 1) < (limbs x).length - i)))))) (fun (h5 : ¬ ((limbs x).getD i 0 < c + ((limbs y).getD i 0))) => I (by omega : c + ((limbs y).getD i 0) ≤ (limbs x).getD i 0) (I (by omega : i < (limbs x).length) (I (by omega : i < out.length) (I (show (i + 1) ≤ 34359738369 by omega : Bnd (.nat .i64) (.n 34359738369) (i + 1)) (And.intro (by first | exact hI.lt (by omega) (by first | rfl | rw [getD_out (l := limbs y) (by omega), Nat.add_zero]) (by assumption) | exact hI.ge (by omega) (by first | rfl | rw [getD_out (l := limbs y) (by omega), Nat.add_zero]) (by assumption) : SubI x y (i + 1) 0 (out.set i (((limbs x).getD i 0) - (c + ((limbs y).getD i 0))))) (by omega : (limbs x).length - (i + 1) < (limbs x).length - i))))))))) (fun (h6 : ¬ (i < (limbs y).length)) => I (by omega : i < (limbs x).length) (And.intro (fun (h7 : (limbs x).getD i 0 < c) => I (by omega : c ≤ ((limbs x).getD i 0) + 4294967296) (I (by omega : i < (limbs x).length) (I (by omega : i < out.length) (I (show (i + 1) ≤ 34359738369 by omega : Bnd (.nat .i64) (.n 34359738369) (i + 1)) (And.intro (by first | exact hI.lt (by omega) (by first | rfl | rw [getD_out (l := limbs y) (by omega), Nat.add_zero]) (by assumption) | exact hI.ge (by omega) (by first | rfl | rw [getD_out (l := limbs y) (by omega), Nat.add_zero]) (by assumption) : SubI x y (i + 1) 1 (out.set i (((((limbs x).getD i 0) + 4294967296) - c) % 4294967296))) (by omega : (limbs x).length - (i + 1) < (limbs x).length - i)))))) (fun (h8 : ¬ ((limbs x).getD i 0 < c)) => I (by omega : c ≤ (limbs x).getD i 0) (I (by omega : i < (limbs x).length) (I (by omega : i < out.length) (I (show (i + 1) ≤ 34359738369 by omega : Bnd (.nat .i64) (.n 34359738369) (i + 1)) (And.intro (by first | exact hI.lt (by omega) (by first | rfl | rw [getD_out (l := limbs y) (by omega), Nat.add_zero]) (by assumption) | exact hI.ge (by omega) (by first | rfl | rw [getD_out (l := limbs y) (by omega), Nat.add_zero]) (by assumption) : SubI x y (i + 1) 0 (out.set i (((limbs x).getD i 0) - c))) (by omega : (limbs x).length - (i + 1) < (limbs x).length - i))))))))) (fun (h9 : ¬ (i < (limbs x).length)) => I (by omega : (limbs x).length = out.length) (have hF := hI.fin' (by omega) hp0; I (hF.2 : ∀ u ∈ out, u < 4294967296) ((hF.1 : valL out = x - y)))))))⟩)
abbrev xminus_c : Ctr Tryz.prog := FI.c xminus_k
abbrev xsub_i : FI := ⟨113, [.mag, .mag], [(.n 1099511627776), (.n 1099511627776)], fun _ => [], fun b z => (fun (x : Nat) (y : Nat) => .tup [.one (.dt .mag (b0 b) (x - y)), .one (.dt (.int .i64) (.n 7) (subC x y))]) z.1 z.2⟩
theorem xsub_k : xsub_i.OK Tryz.prog := mkF hmix 13 Tryz.func113 rfl rfl (by decide) [(66, .c xcmp_c), (170, .c xminus_c)] (fun _ => rfl) (fun _ => rfl) (fun _ _ => rfl) (fun (x : Nat) (y : Nat) b hx hp => tup_cons (one_ok (Bnd.magLe (Bnds.h2 hx).1 (Nat.sub_le _ _)) rfl) (tup_cons (one_ok (subC_b x y) rfl) tup_nil)) (fun (x : Nat) (y : Nat) hx hp => by
 have hx0 : lt2 x 1099511627776 := hx.1
 have hl0 : (limbs x).length ≤ 34359738369 := limbs_len_le (Nat.le_of_lt hx0)
 have hx1 : lt2 y 1099511627776 := hx.2
 have hl1 : (limbs y).length ≤ 34359738369 := limbs_len_le (Nat.le_of_lt hx1)
 exact ⟨.nil, kcast (by kernel_rfl) (And.intro (fun (h1 : cmpN x y < 0) => And.intro (by have := cmp_lt0.1 (show cmpN x y < 0 by assumption); omega : 0 = x - y) ((if_pos (cmp_lt0.1 (by assumption))).symm : 7 = subC x y)) (fun (h2 : ¬ (cmpN x y < 0)) => have hp0 := (show y ≤ x from Nat.le_of_not_lt (mt cmp_lt0.2 (by assumption))); I (by omega : y ≤ x) (And.intro (Eq.refl (x - y)) ((if_neg (by omega)).symm : 0 = subC x y))))⟩)
abbrev xsub_c : Ctr Tryz.prog := FI.c xsub_k
end Go.Proofs.YtcjgaaibflcdiaaGreat.Sx

namespace Go.Proofs.YtcjgaaibflcdiaaGreat.Sx
open Go Go.Proofs
set_option linter.unusedVariables false
set_option linter.unusedSimpArgs false
set_option maxRecDepth 20000
set_option maxHeartbeats 4000000
abbrev xmul_i : FI := ⟨77, [.mag, .mag], [(.n 1099511627776), (.n 1099511627776)], fun _ => [], fun b z => (fun (x : Nat) (y : Nat) => .c (.one (.dt .mag (.n ((b0 b).nb + (b1 b).nb)) (x * y)))) z.1 z.2⟩
theorem xmul_k : xmul_i.OK Tryz.prog := mkF hmix 67 Tryz.func77 rfl rfl (by decide) [] (fun _ => rfl) (fun _ => rfl) (fun _ _ => rfl) (fun (x : Nat) (y : Nat) b hx hp => one_ok (lt2_mul (Bnds.h2 hx).1.mag (Bnds.h2 hx).2.mag) rfl) (fun (x : Nat) (y : Nat) hx hp => by
 have hx0 : lt2 x 1099511627776 := hx.1
 have hl0 : (limbs x).length ≤ 34359738369 := limbs_len_le (Nat.le_of_lt hx0)
 have hx1 : lt2 y 1099511627776 := hx.2
 have hl1 : (limbs y).length ≤ 34359738369 := limbs_len_le (Nat.le_of_lt hx1)
 exact ⟨.h 1 5 (.mk (.arr (.nat .u32) (.n 4294967295))) (.loop [.s 6 (.nat .i64) (.n 34359738369), .a 14 (.nat .u32) (.n 4294967295)] (fun ((i, out) : Nat × List Nat) => MulI x y i out) (fun ((i, out) : Nat × List Nat) => (limbs x).length - i) (fun ((i, out) : Nat × List Nat) => .cond (.loop [.s 8 (.nat .i64) (.n 34359738369), .s 7 (.nat .u64) (.n 4294967295), .a 14 (.nat .u32) (.n 4294967295)] (fun ((j, c, out2) : Nat × Nat × List Nat) => MulJ x y i ((limbs x).getD i 0) j c out out2) (fun ((j, c, out2) : Nat × Nat × List Nat) => (limbs y).length - j) (fun ((j, c, out2) : Nat × Nat × List Nat) => .nil)) (.pre 13 (.frz 14 true [5]) (.h 13 1 (.c xtrim_d) (.nil))))), kcast (by kernel_rfl) (I (by omega : ((limbs x).length) + ((limbs y).length) = ((limbs x).length) + ((limbs y).length)) (I (MulI.start x y : MulI x y 0 (List.replicate (((limbs x).length) + ((limbs y).length)) (0 : Nat))) (fun (i : Nat) (out : List Nat) (hb1 : HB [.s 6 (.nat .i64) (.n 34359738369), .a 14 (.nat .u32) (.n 4294967295)] (i, out)) (hM : MulI x y i out) => have hv10 := (show i ≤ 34359738369 from hb1.1); have hv11 := (show ∀ u ∈ out, u ≤ 4294967295 from hb1.2); have hMl := hM.hl; have hMi := hM.hi; And.intro (fun (h2 : i < (limbs x).length) => I (MulJ.start hM : MulJ x y i ((limbs x).getD i 0) 0 0 out out) (fun (j : Nat) (c : Nat) (out2 : List Nat) (hb3 : HB [.s 8 (.nat .i64) (.n 34359738369), .s 7 (.nat .u64) (.n 4294967295), .a 14 (.nat .u32) (.n 4294967295)] (j, c, out2)) (hJ : MulJ x y i ((limbs x).getD i 0) j c out out2) => have hv6 := (show j ≤ 34359738369 from hb3.1); have hv7 := (show c ≤ 4294967295 from hb3.2.1); have hv8 := (show ∀ u ∈ out2, u ≤ 4294967295 from hb3.2.2); have hJl := hJ.hl; have hJj := hJ.hj; have hJc := hJ.hc; And.intro (fun (h4 : j < (limbs y).length) => I (by omega : i < (limbs x).length) (I (by omega : j < (limbs y).length) (I (by omega : i + j < ((limbs x).length) + ((limbs y).length)) (I (by omega : i + j < out2.length) (I (by omega : i + j < ((limbs x).length) + ((limbs y).length)) (I (by omega : i + j < out2.length) (I (show (j + 1) ≤ 34359738369 by omega : Bnd (.nat .i64) (.n 34359738369) (j + 1)) (And.intro ((hJ.step (by omega) (by omega) (limbs_getD_lt x i) rfl).1 : MulJ x y i ((limbs x).getD i 0) (j + 1) ((c + ((((limbs x).getD i 0) * ((limbs y).getD j 0)) + (out2.getD (i + j) 0))) / 2 ^ 32) out (out2.set (i + j) ((c + ((((limbs x).getD i 0) * ((limbs y).getD j 0)) + (out2.getD (i + j) 0))) % 4294967296))) (by omega : (limbs y).length - (j + 1) < (limbs y).length - j))))))))) (fun (h5 : ¬ (j < (limbs y).length)) => I (by omega : i + ((limbs y).length) < ((limbs x).length) + ((limbs y).length)) (I (by omega : i + ((limbs y).length) < out2.length) (I (show (i + 1) ≤ 34359738369 by omega : Bnd (.nat .i64) (.n 34359738369) (i + 1)) (And.intro (MulJ.fin' hM (by omega) hJ (by omega) : MulI x y (i + 1) (out2.set (i + ((limbs y).length)) c)) (by omega : (limbs x).length - (i + 1) < (limbs x).length - i))))))) (fun (h9 : ¬ (i < (limbs x).length)) => I (by omega : ((limbs x).length) + ((limbs y).length) = out.length) (have hF := hM.fin' (by omega); I (hF.2 : ∀ u ∈ out, u < 4294967296) ((hF.1 : valL out = x * y)))))))⟩)
abbrev xmul_c : Ctr Tryz.prog := FI.c xmul_k
abbrev xbylimb_i : FI := ⟨177, [.mag, (.nat .u32)], [(.n 1099511627776), (.n 4294967295)], fun z => (fun (x : Nat) (u : Nat) => [0 < u]) z.1 z.2, fun b z => (fun (x : Nat) (u : Nat) => .tup [.one (.dt .mag (b0 b) (x / u)), .one (.dt (.nat .u32) (b1 b) (x % u))]) z.1 z.2⟩
theorem xbylimb_k : xbylimb_i.OK Tryz.prog := mkF hmix 43 Tryz.func177 rfl rfl (by decide) [] (fun _ => rfl) (fun _ => rfl) (fun _ _ => rfl) (fun (x : Nat) (u : Nat) b hx hp => tup_cons (one_ok ((Bnds.h2 hx).1.magLe (Nat.div_le_self _ _)) rfl) (tup_cons (one_ok ((Bnds.h2 hx).2.natLe (Nat.le_of_lt (Nat.mod_lt _ (hp _ (List.mem_cons_self))))) rfl) tup_nil)) (fun (x : Nat) (u : Nat) hx hp => by
 have hx0 : lt2 x 1099511627776 := hx.1
 have hl0 : (limbs x).length ≤ 34359738369 := limbs_len_le (Nat.le_of_lt hx0)
 have hx1 : u ≤ 4294967295 := hx.2
 have hp0 : 0 < u := hp _ (List.mem_cons_self)
 exact ⟨.h 1 2 (.mk (.arr (.nat .u32) (.n 4294967295))) (.loop [.s 8 (.int .i64) (.n 34359738370), .s 7 (.nat .u64) (.n 4294967295), .a 11 (.nat .u32) (.n 4294967295)] (fun ((z, r, out) : Int × Nat × List Nat) => SmallZ x u z r out) (fun ((z, r, out) : Int × Nat × List Nat) => (z + 1).toNat) (fun ((z, r, out) : Int × Nat × List Nat) => .cond (.h 6 4 (.ix z.toNat) (.h 6 7 (.i (.n ((r * 2 ^ 32) + ((limbs x).getD z.toNat 0)) 18446744073709551615)) (.h 7 7 (.ix z.toNat) (.nil)))) (.pre 9 (.frz 11 true [6, 7]) (.h 9 1 (.c xtrim_d) (.nil))))), kcast (by kernel_rfl) (I (by omega : (limbs x).length = (limbs x).length) (I (SmallZ.start hp0 : SmallZ x u ((((limbs x).length : Nat) : Int) - 1) 0 (List.replicate ((limbs x).length) (0 : Nat))) (fun (z : Int) (r : Nat) (out : List Nat) (hb1 : HB [.s 8 (.int .i64) (.n 34359738370), .s 7 (.nat .u64) (.n 4294967295), .a 11 (.nat .u32) (.n 4294967295)] (z, r, out)) (hI : SmallZ x u z r out) => have hv4 := (show Int.natAbs z ≤ 34359738370 from hb1.1); have hv5 := (show r ≤ 4294967295 from hb1.2.1); have hv6 := (show ∀ u ∈ out, u ≤ 4294967295 from hb1.2.2); have hB := hI.b; And.intro (fun (h2 : 0 ≤ z) => I (by omega : z = ((z.toNat : Nat) : Int)) (I (by omega : z.toNat < (limbs x).length) (I (bi_or _ 32 rfl (limbs_getD_lt _ _) (by have := limbs_getD_lt x z.toNat; omega) : BinIs .or .u64 ((r * 2 ^ 32 : Nat) : Int) (((limbs x).getD z.toNat 0 : Nat) : Int) (((r * 2 ^ 32) + ((limbs x).getD z.toNat 0) : Nat) : Int)) (I (by have := limbs_getD_lt x z.toNat; omega : (r * 2 ^ 32) + ((limbs x).getD z.toNat 0) ≤ 18446744073709551615) (I (by omega : 0 < u) (I (by omega : z = ((z.toNat : Nat) : Int)) (I (by omega : z.toNat < (limbs x).length) (I (by omega : z.toNat < out.length) (I (by omega : 0 < u) (I (show Int.natAbs (z - 1) ≤ 34359738370 by omega : Bnd (.int .i64) (.n 34359738370) (z - 1)) (And.intro (hI.step (by omega) rfl : SmallZ x u (z - 1) (((r * 2 ^ 32) + ((limbs x).getD z.toNat 0)) % u) (out.set z.toNat ((((r * 2 ^ 32) + ((limbs x).getD z.toNat 0)) / u) % 4294967296))) (by omega : ((z - 1) + 1).toNat < (z + 1).toNat)))))))))))) (fun (h3 : ¬ (0 ≤ z)) => I (by omega : (limbs x).length = out.length) (have hF := hI.fin (by omega); I (hF.2.2 : ∀ u ∈ out, u < 4294967296) (And.intro (hF.1 : valL out = x / u) (hF.2.1 : r = x % u)))))))⟩)
abbrev xbylimb_c : Ctr Tryz.prog := FI.c xbylimb_k
abbrev xtimes_i : FI := ⟨180, [.mag, (.nat .u32)], [(.n 1099511627776), (.n 4294967295)], fun _ => [], fun b z => (fun (x : Nat) (u : Nat) => .c (.one (.dt .mag (.n ((b0 b).nb + (Nat.log2 (b1 b).nb + 1))) (x * u)))) z.1 z.2⟩
theorem xtimes_k : xtimes_i.OK Tryz.prog := mkF hmix 10 Tryz.func180 rfl rfl (by decide) [(77, .c xmul_c), (130, .c xof_c)] (fun _ => rfl) (fun _ => rfl) (fun _ _ => rfl) (fun (x : Nat) (u : Nat) b hx hp => one_ok (lt2_mul (Bnds.h2 hx).1.mag (lt2_log (Bnds.h2 hx).2.nat)) rfl) (fun (x : Nat) (u : Nat) hx hp => by
 exact ⟨.nil, kcast (by kernel_rfl) ((Eq.refl (x * u)))⟩)
abbrev xtimes_c : Ctr Tryz.prog := FI.c xtimes_k
end Go.Proofs.YtcjgaaibflcdiaaGreat.Sx
