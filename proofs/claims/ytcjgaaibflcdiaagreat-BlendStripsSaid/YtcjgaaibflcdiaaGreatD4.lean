/-
Own laws and walks for the claim, part 4: WRl, WRl2, WRl3, WXl, WXl2, WYl, WVl, WBl, WBl2, WMl, WSl, WTl, WCl, WEl, WDl, WPt, WKl, WKl2, WKl3, WKl4, WUq, WJl, WDa1, WNat1, WNat2, WNat3, WNat4, WNat5, WNat6, WRat1, WRat2. No condition.
-/
import Derived.Test.YtcjgaaibflcdiaaGreatD3
namespace Go.Proofs.YtcjgaaibflcdiaaGreat.Sx
open Go Go.Proofs
set_option linter.unusedVariables false
set_option linter.unusedSimpArgs false
set_option maxRecDepth 20000
set_option maxHeartbeats 4000000
def sgI (neg : Bool) (n : Nat) : Int := if neg then -(n : Int) else n
def sgQ (neg : Bool) (n d : Nat) : Rat := mkRat (sgI neg n) d
theorem Kx (neg : Bool) (n : Nat) : (sgI neg n).natAbs = n := by unfold sgI; split <;> simp
theorem Av (neg : Bool) (d : Nat) : sgQ neg 0 d = 0 := by unfold sgQ sgI; cases neg <;> simp
theorem By (neg : Bool) (n : Nat) : sgQ neg n 0 = 0 := by unfold sgQ; simp [Rat.mkRat_zero]
theorem qP {neg : Bool} {n d : Nat} (hd : 0 < d) : (sgQ neg n d).num = sgI neg n / ((Nat.gcd n d : Nat) : Int) ∧ (sgQ neg n d).den = d / Nat.gcd n d := by
 have h : sgQ neg n d = Rat.normalize (sgI neg n) d (by omega) := (Rat.normalize_eq_mkRat (by omega)).symm
 have e := Rat.normalize_eq (num := sgI neg n) (den := d) (by omega)
 rw [h, e]
 refine ⟨?_, ?_⟩
 ·show sgI neg n / (((sgI neg n).natAbs.gcd d : Nat) : Int) = _
  rw [Kx]
 ·show d / (sgI neg n).natAbs.gcd d = _
  rw [Kx]
theorem qY {neg : Bool} {n d : Nat} (hd : 0 < d) : (sgQ neg n d).num.natAbs = n / Nat.gcd n d := by
 rw [(qP hd).1]
 unfold sgI
 have hg : (Nat.gcd n d) ∣ n := Nat.gcd_dvd_left n d
 obtain ⟨k, hk⟩ := hg
 have hg0 : 0 < Nat.gcd n d := Nat.gcd_pos_of_pos_right _ hd
 generalize Nat.gcd n d = g at *
 subst hk
 rw [Nat.mul_div_cancel_left _ hg0]
 split
 ·rw [Int.natCast_mul, ← Int.mul_neg, Int.mul_ediv_cancel_left _ (by omega)]; simp
 ·rw [Int.natCast_mul, Int.mul_ediv_cancel_left _ (by omega)]; simp
theorem j9 {neg : Bool} {n d : Nat} (hn : 0 < n) (hd : 0 < d) : decide ((sgQ neg n d).num < 0) = neg := by
 rw [(qP hd).1]
 have hg0 : 0 < Nat.gcd n d := Nat.gcd_pos_of_pos_right _ hd
 obtain ⟨k, hk⟩ := Nat.gcd_dvd_left n d
 generalize Nat.gcd n d = g at *
 subst hk
 have hk0 : 0 < k := Nat.pos_of_ne_zero (fun e => by subst e; simp at hn)
 unfold sgI
 cases neg
 ·simp only [Bool.false_eq_true, if_false, Int.natCast_mul, Int.mul_ediv_cancel_left _ (show (g : Int) ≠ 0 by omega)]
  simp
 ·simp only [if_true]
  rw [Int.natCast_mul, ← Int.mul_neg, Int.mul_ediv_cancel_left _ (by omega)]
  simp; omega
theorem V5 (a b : Bool) (n m : Nat) : sgI a n * sgI b m = sgI (decide (a ≠ b)) (n * m) := by
 cases a <;> cases b <;> simp [sgI, Int.natCast_mul, Int.neg_mul, Int.mul_neg]
theorem IZ (z : Int) : sgI (decide (z < 0)) z.natAbs = z := by
 unfold sgI; split <;> simp_all <;> omega
theorem zT (x : Rat) : sgQ (decide (x.num < 0)) x.num.natAbs x.den = x := by
 unfold sgQ; rw [IZ]; exact Rat.mkRat_self x
theorem Gi (a b : Bool) (n m d e : Nat) : sgQ a n d * sgQ b m e = sgQ (decide (a ≠ b)) (n * m) (d * e) := by
 unfold sgQ; rw [Rat.mkRat_mul_mkRat, V5]
theorem w2 (x y : Rat) : sgQ (decide (decide (x.num < 0) ≠ decide (y.num < 0))) (x.num.natAbs * y.num.natAbs) (x.den * y.den) = x * y := by
 rw [← Gi, zT, zT]
theorem V6 (a b : Bool) (n m : Nat) {d e : Nat} (hd : 0 < d) (he : 0 < e) : sgQ a n d + sgQ b m e = mkRat (sgI a (n * e) + sgI b (m * d)) (d * e) := by
 unfold sgQ
 rw [Rat.mkRat_add_mkRat _ _ (by omega) (by omega)]
 congr 1
 unfold sgI
 cases a <;> cases b <;> simp [Int.natCast_mul, Int.neg_mul]
theorem QY (a : Bool) (n m : Nat) : sgI a n + sgI a m = sgI a (n + m) := by cases a <;> simp [sgI] <;> omega
theorem Ym {a b : Bool} (h : a ≠ b) {n m : Nat} (hm : m ≤ n) : sgI a n + sgI b m = sgI a (n - m) := by
 cases a <;> cases b <;> simp_all [sgI] <;> omega
theorem Yn {a b : Bool} (h : a ≠ b) {n m : Nat} (hm : n ≤ m) : sgI a n + sgI b m = sgI b (m - n) := by
 cases a <;> cases b <;> simp_all [sgI] <;> omega
theorem qt {neg : Bool} {n d p : Nat} (hn : lt2 n p) (hd : le2 d p) (h0 : 0 < d) : Bnd .rat (.n p) (sgQ neg n d) := by
 show lt2 _ _ ∧ le2 _ _
 rw [qY h0, (qP h0).2]
 exact ⟨zK hn (Nat.div_le_self _ _), Nat.le_trans (Nat.div_le_self _ _) hd⟩
theorem zC {x b : Nat} (h : x ≤ b) : lt2 x (Nat.log2 b + 1) := Nat.lt_of_le_of_lt h Nat.lt_log2_self
theorem qW {b : Bd} {x : Rat} (h : Bnd .rat b x) : (WV.c (.agg [.dt .rat b x])).ok := qT h
def nlw (v : Nat) : Nat := if v / 2 ^ 32 = 0 then 1 else 2
def putW (l : List Nat) (lo v : Nat) : List Nat := if v / 2 ^ 32 = 0 then l.set (lo + 0) (v % 4294967296) else (l.set (lo + 0) (v % 4294967296)).set (lo + 1) (v / 2 ^ 32)
theorem It (v : Nat) : 1 ≤ nlw v ∧ nlw v ≤ 2 := by unfold nlw; split <;> omega
theorem IJ (l : List Nat) (lo v : Nat) : (putW l lo v).length = l.length := by unfold putW; split <;> simp
theorem QI {l : List Nat} {lo v : Nat} (hv : v ≤ 18446744073709551615) (h : ∀ u ∈ l, Bnd (.nat .u32) (.n 4294967295) u) : ∀ u ∈ putW l lo v, Bnd (.nat .u32) (.n 4294967295) u := by
 have h1 := jv (n := lo + 0) (Gn h) (Nat.mod_lt v (show 0 < 4294967296 by omega))
 unfold putW
 split
 ·exact fun u hu => Nat.le_of_lt_succ (h1 u hu)
 ·exact fun u hu => Nat.le_of_lt_succ (jv h1 (show v / 2 ^ 32 < 4294967296 by omega) u hu)
theorem G3 {v : Nat} (h0 : 0 < v) (hv : v ≤ 18446744073709551615) : limbs v = if v / 2 ^ 32 = 0 then [v % 4294967296] else [v % 4294967296, v / 2 ^ 32] := by
 rw [jN (by omega)]
 split
 ·rename_i h
  rw [show v / 4294967296 = 0 by omega]; rw [zB]
 ·rename_i h
  rw [jN (n := v / 4294967296) (by omega)]
  rw [show v / 4294967296 / 4294967296 = 0 by omega, zB, Nat.mod_eq_of_lt (show v / 4294967296 < 4294967296 by omega)]
theorem Kz {n : Nat} (h0 : 0 < n) (hn : n ≤ 18446744073709551615) : (putW (List.replicate 4 (0 : Nat)) 0 n).take (nlw n) = limbs n := by
 rw [G3 h0 hn]; unfold putW nlw
 split <;> simp [List.replicate]
theorem J2 {n d : Nat} (h0 : 0 < n) (hn : n ≤ 18446744073709551615) : (putW (putW (List.replicate 4 (0 : Nat)) 0 n) (nlw n) d).take (nlw n) = limbs n := by
 rw [G3 h0 hn]; unfold putW nlw
 split <;> split <;> simp [List.replicate]
theorem V8 {n d : Nat} (h0 : 0 < d) (hd : d ≤ 18446744073709551615) : ((putW (putW (List.replicate 4 (0 : Nat)) 0 n) (nlw n) d).drop (nlw n)).take (nlw n + nlw d - nlw n) = limbs d := by
 rw [G3 h0 hd, Nat.add_sub_cancel_left]; unfold putW nlw
 split <;> split <;> simp [List.replicate]
theorem zP {d : Nat} (h0 : d ≠ 0) (h : (denL d).length = 0) : d = 1 := by
 unfold denL at h
 split at h
 ·assumption
 ·exact absurd (nl0.1 h) h0
theorem w7 {d : Nat} (h : ¬ (denL d).length = 0) : denL d = limbs d := by
 unfold denL at h ⊢
 split
 ·rename_i e; rw [if_pos e] at h; exact absurd rfl h
 ·rfl
theorem Tj {a b p q : Nat} (ha : a ≤ p) (hb : b ≤ q) : Nat.gcd a b ≤ max p q := by
 rcases Nat.eq_zero_or_pos a with e | e
 ·subst e; rw [Nat.gcd_zero_left]; omega
 ·have := Nat.gcd_le_left b e; omega
theorem jX {E : Nat} (h1 : (limbs E).length = 1) (h2 : (limbs E).getD 0 0 = 1) : E = 1 := by
 have := vO (x := E) (by omega)
 rw [h1] at this
 simp only [Nat.sub_self, List.take_zero, valL, h2] at this
 omega
theorem jS {D E : Nat} (h : E = D) (hn : ¬ ((limbs E).length = 1 ∧ (limbs E).getD 0 0 = 1)) : limbs E = denL D := by
 subst h
 unfold denL
 rw [if_neg]
 intro e; subst e; exact hn ⟨Xx, by rw [zm]; rfl⟩
theorem Lo {E : Nat} (h1 : (limbs E).length = 1) : (limbs E).getD 0 0 = E := by
 have := vO (x := E) (by omega)
 rw [h1] at this
 simp only [Nat.sub_self, List.take_zero, valL, Nat.pow_zero, Nat.one_mul, Nat.zero_add] at this
 exact this.symm
def bigQ (x : Rat) : Prop := 1 < (limbs x.num.natAbs).length ∨ 1 < (denL x.den).length
instance (x : Rat) : Decidable (bigQ x) := by unfold bigQ; infer_instance
def pn (x : Rat) : Nat := if bigQ x then 0 else x.num.natAbs
def pd (x : Rat) : Nat := if bigQ x then 0 else x.den
def pb (x : Rat) : Bool := decide (¬ bigQ x)
theorem NF {x : Nat} (h : (limbs x).length ≤ 1) : x < 4294967296 := by
 have h1 := jq (limbs x) (qH x)
 rw [qn] at h1
 exact Nat.lt_of_lt_of_le h1 (Nat.pow_le_pow_right (n := 4294967296) (by omega) h)
theorem Fm (x : Rat) : pn x ≤ 4294967295 := by
 unfold pn; split
 ·omega
 ·rename_i h; unfold bigQ at h; exact Nat.le_of_lt_succ (NF (by omega))
theorem Pw {d : Nat} (h : (denL d).length ≤ 1) : d < 4294967296 := by
 unfold denL at h; split at h
 ·omega
 ·exact NF h
theorem Fl (x : Rat) : pd x ≤ 4294967295 := by
 unfold pd; split
 ·omega
 ·rename_i h; unfold bigQ at h; exact Nat.le_of_lt_succ (Pw (by omega))
theorem Dy {x : Rat} (h : bigQ x) : 0 = pn x ∧ 0 = pd x ∧ false = pb x := by simp [pn, pd, pb, h]
theorem p_sm {x : Rat} (h : ¬ bigQ x) : x.num.natAbs = pn x ∧ x.den = pd x ∧ pb x = true := by simp [pn, pd, pb, h]
theorem AM {x : Rat} (h : pb x = true) : pn x = x.num.natAbs ∧ pd x = x.den ∧ 0 < pd x := by
 have h : ¬ bigQ x := by simpa [pb] using h
 have := p_sm h
 have := x.den_nz
 omega
theorem Mw {d : Nat} (h : (denL d).length = 1) : (denL d).getD 0 0 = d := by
 have h' : ¬ (denL d).length = 0 := by omega
 rw [w7 h'] at h ⊢
 exact Lo h
theorem Cn {neg : Bool} {n d p : Nat} (hn : lt2 n p) (hd : lt2 d p) : Bnd .rat (.n p) (sgQ neg n d) := by
 rcases Nat.eq_zero_or_pos d with e | e
 ·subst e; rw [By]
  exact ⟨Nat.pow_pos (by decide), Nat.pow_pos (by decide)⟩
 ·exact qt hn (qz hd) e
theorem Mp {g : Nat} (h0 : 0 < g) (h : bl g ≤ 1) : g = 1 := by
 have h1 := BO g
 have h2 : 2 ^ bl g ≤ 2 ^ 1 := Nat.pow_le_pow_right (by decide) h
 omega
theorem B3 {x y : Rat} {b c : Bd} (hx : Bnd .rat b x) (hy : Bnd .rat c y) : Bnd .rat (.n (b.nb + c.nb)) (x * y) := by
 rw [← w2]
 exact qt (Dt hx.rat.1 hy.rat.1) (Kb hx.rat.2 hy.rat.2) (Nat.mul_pos x.den_pos y.den_pos)
theorem vQ {x : Rat} (h : x.num.natAbs = 0) : x = 0 := by
 have : x.num = 0 := Int.natAbs_eq_zero.1 h
 exact Rat.num_eq_zero.1 this
theorem Ky (v : Int) : sgQ (decide (v < 0)) v.natAbs 1 = (v : Rat) := by
 unfold sgQ; rw [IZ]; exact (Rat.mkRat_one v)
theorem z5 {v : Int} {b : Nat} (h : v.natAbs ≤ b) : Bnd .rat (.n (Nat.log2 b + 1)) (v : Rat) := by
 rw [← Ky]; exact qt (zC h) (Nat.one_le_two_pow) (by decide)
def sgnQ (x : Rat) : Int := if x.num.natAbs = 0 then 0 else if x.num < 0 then -1 else 1
theorem J1 (x : Rat) : (sgnQ x).natAbs ≤ 1 := by
 unfold sgnQ; split
 ·decide
 ·split <;> decide
theorem FW {l m : List Nat} {i : Nat} (hl : l.length = m.length) (h : l.take i = m.take i) (hi : i < l.length) : (l.getD i 0 = m.getD i 0 → l.take (i + 1) = m.take (i + 1)) ∧ (l.getD i 0 ≠ m.getD i 0 → l ≠ m) := by
 refine ⟨fun e => ?_, fun e e2 => e (by rw [e2])⟩
 rw [List.take_succ_eq_append_getElem hi, List.take_succ_eq_append_getElem (by omega), h]
 simp only [List.getD_eq_getElem?_getD, List.getElem?_eq_getElem hi, List.getElem?_eq_getElem (show i < m.length by omega), Option.getD_some] at e
 rw [e]
theorem we {x y : Rat} (h : y.num.natAbs ≠ 0) : sgQ (decide (decide (x.num < 0) ≠ decide (y.num < 0))) (x.num.natAbs * y.den) (x.den * y.num.natAbs) = x / y := by
 have e : y⁻¹ = sgQ (decide (y.num < 0)) y.den y.num.natAbs := by
  conv => lhs; rw [← Rat.num_divInt_den y]
  rw [Rat.inv_divInt]
  unfold sgQ sgI
  by_cases hn : y.num < 0
  ·simp only [hn, decide_true, if_true]
   rw [← Rat.divInt_ofNat, ← Rat.neg_divInt_neg]
   congr 1; omega
  ·simp only [hn, decide_false, Bool.false_eq_true, if_false]
   rw [← Rat.divInt_ofNat]
   congr 1; omega
 rw [Rat.div_def, e]
 conv => rhs; rw [← zT x]
 rw [Gi]
def yQ (s : Bool) (y : Rat) : Rat := sgQ s y.num.natAbs y.den
theorem BG (y : Rat) : yQ (decide (y.num < 0)) y = y := zT y
theorem OX (y : Rat) : yQ (!decide (y.num < 0)) y = -y := by
 have h : -y = mkRat (-y.num) y.den := by rw [← Rat.neg_mkRat, Rat.mkRat_self]
 by_cases h0 : y.num.natAbs = 0
 ·have := vQ h0
  subst this; rfl
 ·rw [h]; unfold yQ sgQ sgI
  congr 1
  by_cases hn : y.num < 0
  ·simp [hn]; omega
  ·simp [hn]; omega
theorem HD (s : Bool) (x y : Rat) : x + yQ s y = mkRat (sgI (decide (x.num < 0)) (x.num.natAbs * y.den) + sgI s (y.num.natAbs * x.den)) (x.den * y.den) := by
 conv => lhs; rw [← zT x]
 exact V6 _ _ _ _ x.den_pos y.den_pos
theorem qF {s : Bool} {x y : Rat} (h : decide (x.num < 0) = s) : sgQ s (x.num.natAbs * y.den + y.num.natAbs * x.den) (x.den * y.den) = x + yQ s y := by
 rw [HD, h, QY]; rfl
theorem qD {s : Bool} {x y : Rat} (h : decide (x.num < 0) ≠ s) (hm : y.num.natAbs * x.den ≤ x.num.natAbs * y.den) : sgQ (decide (x.num < 0)) (x.num.natAbs * y.den - y.num.natAbs * x.den) (x.den * y.den) = x + yQ s y := by
 rw [HD, Ym h hm]; rfl
theorem qE {s : Bool} {x y : Rat} (h : decide (x.num < 0) ≠ s) (hm : x.num.natAbs * y.den ≤ y.num.natAbs * x.den) : sgQ s (y.num.natAbs * x.den - x.num.natAbs * y.den) (x.den * y.den) = x + yQ s y := by
 rw [HD, Yn h hm]; rfl
theorem AR (s : Bool) (n d e : Nat) (he : 0 < e) : sgQ s (n * e) (d * e) = sgQ s n d := by
 rcases Nat.eq_zero_or_pos d with h | h
 ·subst h; rw [Nat.zero_mul, By, By]
 ·unfold sgQ
  rw [Rat.mkRat_eq_iff (Nat.ne_of_gt (Nat.mul_pos h he)) (Nat.ne_of_gt h)]
  have e1 : sgI s (n * e) = sgI s n * (e : Int) := by unfold sgI; cases s <;> simp [Int.natCast_mul, Int.neg_mul]
  rw [e1, Int.natCast_mul, Int.mul_assoc, Int.mul_comm (e : Int)]
theorem qL {s : Bool} {x y : Rat} (hd : x.den = y.den) (h : decide (x.num < 0) = s) : sgQ s (x.num.natAbs + y.num.natAbs) x.den = x + yQ s y := by
 rw [← qF h, ← hd, ← Nat.add_mul, AR _ _ _ _ x.den_pos]
theorem qJ {s : Bool} {x y : Rat} (hd : x.den = y.den) (h : decide (x.num < 0) ≠ s) (hm : y.num.natAbs ≤ x.num.natAbs) : sgQ (decide (x.num < 0)) (x.num.natAbs - y.num.natAbs) x.den = x + yQ s y := by
 rw [← qD h (by rw [hd]; exact Nat.mul_le_mul_right _ hm), ← hd, ← Nat.sub_mul, AR _ _ _ _ x.den_pos]
theorem qK {s : Bool} {x y : Rat} (hd : x.den = y.den) (h : decide (x.num < 0) ≠ s) (hm : x.num.natAbs ≤ y.num.natAbs) : sgQ s (y.num.natAbs - x.num.natAbs) x.den = x + yQ s y := by
 rw [← qE h (by rw [hd]; exact Nat.mul_le_mul_right _ hm), ← hd, ← Nat.sub_mul, AR _ _ _ _ x.den_pos]
theorem vI {d e : Nat} (hd : d ≠ 0) (he : e ≠ 0) (h : denL d = denL e) : d = e := by
 by_cases h1 : d = 1
 ·subst h1
  have : (denL e).length = 0 := by rw [← h]; rfl
  exact (zP he this).symm
 ·by_cases h2 : e = 1
  ·subst h2
   exact zP hd (by rw [h]; rfl)
  ·unfold denL at h
   rw [if_neg h1, if_neg h2] at h
   have := congrArg valL h
   rwa [qn, qn] at this
theorem C8 {x y a b : Nat} (h : lt2 x a) (k : le2 y b) : lt2 (x * y) (a + b) := by
 unfold lt2 le2 at *
 rw [Nat.pow_add]
 exact Nat.lt_of_le_of_lt (Nat.mul_le_mul_left _ k) (Nat.mul_lt_mul_of_pos_right h (Nat.pow_pos (by decide)))
theorem FJ {s : Bool} {x y : Rat} {b c : Bd} (hx : Bnd .rat b x) (hy : Bnd .rat c y) : Bnd .rat (.n (b.nb + c.nb + 1)) (x + yQ s y) := by
 have h1 := C8 hx.rat.1 hy.rat.2
 have h2 := C8 hy.rat.1 hx.rat.2
 have h3 := Kb hx.rat.2 hy.rat.2
 have h4 : lt2 (x.num.natAbs * y.den + y.num.natAbs * x.den) (b.nb + c.nb + 1) := by
  rw [Nat.add_comm c.nb] at h2
  have := Bl h1 h2
  rwa [Nat.max_self] at this
 have hp := Nat.mul_pos x.den_pos y.den_pos
 have h5 : le2 (x.den * y.den) (b.nb + c.nb + 1) := ws (Nat.le_succ _) h3
 by_cases e : decide (x.num < 0) = s
 ·rw [← qF e]; exact qt h4 h5 hp
 ·rcases Nat.le_total (y.num.natAbs * x.den) (x.num.natAbs * y.den) with hm | hm
  ·rw [← qD e hm]; exact qt (zK h4 (by omega)) h5 hp
  ·rw [← qE e hm]; exact qt (zK h4 (by omega)) h5 hp
def cy (a b : Nat) : Nat := (a + b) / 18446744073709551616
theorem ZA {a b : Nat} (h : a ≤ 4294967295 * 4294967295) (k : b ≤ 4294967295 * 4294967295) : cy a b ≤ 1 := by unfold cy; omega
theorem Ak {a b : Nat} (h : cy a b = 0) : (a + b) % 18446744073709551616 = a + b := by unfold cy at h; omega
theorem DU {x y : Rat} {b c : Bd} (hx : Bnd .rat b x) (hy : Bnd .rat c y) : Bnd .rat (.n (b.nb + c.nb + 1)) (x + y) := by
 have := FJ (s := decide (y.num < 0)) hx hy
 rwa [BG] at this
theorem Em {x y : Rat} {b c : Bd} (hx : Bnd .rat b x) (hy : Bnd .rat c y) : Bnd .rat (.n (b.nb + c.nb + 1)) (x - y) := by
 have := FJ (s := !decide (y.num < 0)) hx hy
 rwa [OX, ← Rat.sub_eq_add_neg] at this
theorem wv {x y : Rat} {b c : Bd} (hx : Bnd .rat b x) (hy : Bnd .rat c y) : Bnd .rat (.n (b.nb + c.nb)) (x / y) := by
 by_cases h : y.num.natAbs = 0
 ·rw [vQ h, Rat.div_def, Rat.inv_zero, Rat.mul_zero]
  exact ⟨Nat.pow_pos (by decide), Nat.pow_pos (by decide)⟩
 ·rw [← we h]
  have h2 := C8 hy.rat.1 hx.rat.2
  rw [Nat.add_comm, Nat.mul_comm] at h2
  exact qt (C8 hx.rat.1 hy.rat.2) (qz h2) (Nat.mul_pos x.den_pos (by omega))
theorem Sn {x y : Rat} (h : y.num.natAbs = 0) : 0 = x / y := by rw [vQ h, Rat.div_def, Rat.inv_zero, Rat.mul_zero]
def quoC (y : Rat) : Int := if y.num.natAbs = 0 then 3 else 0
theorem NU (y : Rat) : (quoC y).natAbs ≤ 3 := by unfold quoC; split <;> decide
theorem J0 {y : Rat} : sgnQ y = 0 ↔ y.num.natAbs = 0 := by
 unfold sgnQ; split
 ·simp_all
 ·split <;> simp_all
theorem NY {x : Rat} {b : Bd} (h : Bnd .rat b x) : Int.natAbs (max ((bl x.num.natAbs : Nat) : Int) ((bl x.den : Nat) : Int)) ≤ b.nb + (b.nb + 1) := by
 have h1 := wE h.rat.1
 have h2 := wE (z6 h.rat.2)
 omega
def cmpQ (x y : Rat) : Int := if x < y then -1 else if x = y then 0 else 1
theorem HS (x y : Rat) : (cmpQ x y).natAbs ≤ 1 := by
 unfold cmpQ; split
 ·decide
 ·split <;> decide
def cmpL (x y : Rat) : Int := cmpN (x.num.natAbs * y.den) (y.num.natAbs * x.den)
theorem Fo {x y : Rat} : x = y ↔ x.num * y.den = y.num * x.den := by
 constructor
 ·intro h; subst h; rfl
 ·intro h
  rw [← Rat.mkRat_self x, ← Rat.mkRat_self y]
  exact (Rat.mkRat_eq_iff x.den_nz y.den_nz).2 h
theorem Ba (x y : Rat) : cmpQ x y = if x.num * y.den < y.num * x.den then -1 else if x.num * y.den = y.num * x.den then 0 else 1 := by
 unfold cmpQ
 by_cases h : x < y
 ·rw [if_pos h, if_pos ((Rat.lt_iff x y).1 h)]
 ·rw [if_neg h, if_neg (mt (Rat.lt_iff x y).2 h)]
  by_cases e : x = y
  ·rw [if_pos e, if_pos (Fo.1 e)]
  ·rw [if_neg e, if_neg (mt Fo.2 e)]
theorem Oh (z : Int) {d : Nat} (hd : 0 < d) : (z < 0 → z * (d : Int) < 0) ∧ (z = 0 → z * (d : Int) = 0) ∧ (0 < z → 0 < z * (d : Int)) :=
 ⟨fun h => Int.mul_neg_of_neg_of_pos h (by omega), fun h => by rw [h, Int.zero_mul], fun h => Int.mul_pos h (by omega)⟩
theorem w3 (x : Rat) : (x.num < 0 ∧ sgnQ x = -1) ∨ (x.num = 0 ∧ sgnQ x = 0) ∨ (0 < x.num ∧ sgnQ x = 1) := by
 unfold sgnQ
 by_cases h : x.num.natAbs = 0
 ·rw [if_pos h]; omega
 ·rw [if_neg h]
  by_cases h2 : x.num < 0
  ·rw [if_pos h2]; omega
  ·rw [if_neg h2]; omega
theorem qM {x y : Rat} (h : sgnQ x ≠ sgnQ y) : (sgnQ x < sgnQ y → cmpQ x y = -1) ∧ (¬ sgnQ x < sgnQ y → cmpQ x y = 1) := by
 have h1 := Oh x.num y.den_pos
 have h2 := Oh y.num x.den_pos
 have c1 := w3 x
 have c2 := w3 y
 rw [Ba]
 generalize x.num * (y.den : Int) = A at *
 generalize y.num * (x.den : Int) = B at *
 refine ⟨fun hl => ?_, fun hl => ?_⟩
 ·rw [if_pos (by omega)]
 ·rw [if_neg (by omega), if_neg (by omega)]
theorem jx {x y : Rat} (hs : sgnQ x = sgnQ y) (h : ¬ x.num < 0) : cmpQ x y = cmpL x y := by
 have c1 := w3 x
 have c2 := w3 y
 have e1 : x.num * (y.den : Int) = ((x.num.natAbs * y.den : Nat) : Int) := by rw [Int.natCast_mul, Int.natAbs_of_nonneg (by omega)]
 have e2 : y.num * (x.den : Int) = ((y.num.natAbs * x.den : Nat) : Int) := by rw [Int.natCast_mul, Int.natAbs_of_nonneg (by omega)]
 rw [Ba, e1, e2]
 unfold cmpL cmpN
 generalize x.num.natAbs * y.den = A
 generalize y.num.natAbs * x.den = B
 by_cases g : A < B
 ·rw [if_pos (by omega), if_pos g]
 ·rw [if_neg (by omega), if_neg g]
  by_cases g2 : A = B
  ·rw [if_pos (by omega), if_pos g2]
  ·rw [if_neg (by omega), if_neg g2]
theorem jw {x y : Rat} (hs : sgnQ x = sgnQ y) (h : x.num < 0) : cmpQ x y = -cmpL x y := by
 have c1 := w3 x
 have c2 := w3 y
 have e1 : x.num * (y.den : Int) = -((x.num.natAbs * y.den : Nat) : Int) := by
  rw [Int.natCast_mul, ← Int.neg_mul]; congr 1; omega
 have e2 : y.num * (x.den : Int) = -((y.num.natAbs * x.den : Nat) : Int) := by
  rw [Int.natCast_mul, ← Int.neg_mul]; congr 1; omega
 rw [Ba, e1, e2]
 unfold cmpL cmpN
 generalize x.num.natAbs * y.den = A
 generalize y.num.natAbs * x.den = B
 by_cases g : A < B
 ·rw [if_neg (by omega), if_neg (by omega), if_pos g]; rfl
 ·rw [if_neg g]
  by_cases g2 : A = B
  ·rw [if_neg (by omega), if_pos (by omega), if_pos g2]; rfl
  ·rw [if_pos (by omega), if_neg g2]
theorem Pq {a b c : Nat} (h : 0 < c) : cmpN (a * c) (b * c) = cmpN a b := by
 unfold cmpN
 simp only [Nat.mul_lt_mul_right h, Nat.mul_left_inj (Nat.ne_of_gt h)]
theorem qj {x y : Rat} (h : x.den = y.den) : cmpN x.num.natAbs y.num.natAbs = cmpL x y := by
 unfold cmpL; rw [← h, Pq x.den_pos]
theorem j4 {x y : Rat} (hx : pn x = x.num.natAbs ∧ pd x = x.den ∧ 0 < pd x) (hy : pn y = y.num.natAbs ∧ pd y = y.den ∧ 0 < pd y) : cmpL x y = cmpN (pn x * pd y) (pn y * pd x) := by
 unfold cmpL; rw [hx.1, hx.2.1, hy.1, hy.2.1]
theorem Nu {a b : Nat} (h : limbs a = limbs b) : a = b := by
 have := congrArg valL h
 rwa [qn, qn] at this
theorem Ck (x y : Rat) : x = y ↔ decide (x.num < 0) = decide (y.num < 0) ∧ limbs x.num.natAbs = limbs y.num.natAbs ∧ denL x.den = denL y.den := by
 constructor
 ·intro h; subst h; exact ⟨rfl, rfl, rfl⟩
 ·rintro ⟨h1, h2, h3⟩
  rw [← zT x, ← zT y, h1, Nu h2, vI x.den_nz y.den_nz h3]
theorem LK {x y : Rat} (h : ¬ decide (x.num < 0) = decide (y.num < 0)) : false = decide (x = y) := (decide_eq_false (fun e => h ((Ck x y).1 e).1)).symm
theorem LL {x y : Rat} (h : ¬ decide (limbs x.num.natAbs = limbs y.num.natAbs) = true) : false = decide (x = y) := (decide_eq_false (fun e => h (decide_eq_true ((Ck x y).1 e).2.1))).symm
theorem LM {x y : Rat} (h1 : decide (x.num < 0) = decide (y.num < 0)) (h2 : decide (limbs x.num.natAbs = limbs y.num.natAbs) = true) : decide (denL x.den = denL y.den) = decide (x = y) := by
 rw [decide_eq_decide, Ck]
 exact ⟨fun h => ⟨h1, of_decide_eq_true h2, h⟩, fun h => h.2.2⟩
def minQ (x y : Rat) : Rat := if cmpQ y x < 0 then y else x
def maxQ (x y : Rat) : Rat := if 0 < cmpQ y x then y else x
theorem Io {x y : Rat} {b c : Bd} (hx : Bnd .rat b x) (hy : Bnd .rat c y) : Bnd .rat (.n (max b.nb c.nb)) (minQ x y) := by
 unfold minQ; split
 ·exact ⟨q7 (Nat.le_max_right _ _) hy.rat.1, ws (Nat.le_max_right _ _) hy.rat.2⟩
 ·exact ⟨q7 (Nat.le_max_left _ _) hx.rat.1, ws (Nat.le_max_left _ _) hx.rat.2⟩
theorem Im {x y : Rat} {b c : Bd} (hx : Bnd .rat b x) (hy : Bnd .rat c y) : Bnd .rat (.n (max b.nb c.nb)) (maxQ x y) := by
 unfold maxQ; split
 ·exact ⟨q7 (Nat.le_max_right _ _) hy.rat.1, ws (Nat.le_max_right _ _) hy.rat.2⟩
 ·exact ⟨q7 (Nat.le_max_left _ _) hx.rat.1, ws (Nat.le_max_left _ _) hx.rat.2⟩
theorem SubI.lt {x y i c s : Nat} {out : List Nat} (h : SubI x y i c out) (hi : i < (limbs x).length) (hs : s = c + (limbs y).getD i 0) (hl : (limbs x).getD i 0 < s) :
    SubI x y (i + 1) 1 (out.set i (((limbs x).getD i 0 + 4294967296 - s) % 4294967296)) := by
  have h1 := qb x i
  have h2 := qb y i
  have hc := h.hc
  have := h.step hi hs
  have e : dif ((limbs x).getD i 0) s = (limbs x).getD i 0 + 18446744073709551616 - s := by rw [Be]; omega
  rw [e, show ((limbs x).getD i 0 + 18446744073709551616 - s) / 9223372036854775808 = 1 by omega, show ((limbs x).getD i 0 + 18446744073709551616 - s) % 4294967296 = ((limbs x).getD i 0 + 4294967296 - s) % 4294967296 by omega] at this
  exact this
theorem SubI.ge {x y i c s : Nat} {out : List Nat} (h : SubI x y i c out) (hi : i < (limbs x).length) (hs : s = c + (limbs y).getD i 0) (hl : ¬ (limbs x).getD i 0 < s) :
    SubI x y (i + 1) 0 (out.set i ((limbs x).getD i 0 - s)) := by
  have h1 := qb x i
  have := h.step hi hs
  have e : dif ((limbs x).getD i 0) s = (limbs x).getD i 0 - s := by rw [Be]; omega
  rw [e, show ((limbs x).getD i 0 - s) / 9223372036854775808 = 0 by omega, show ((limbs x).getD i 0 - s) % 4294967296 = (limbs x).getD i 0 - s by omega] at this
  exact this
def xw (x : Nat) : Nat := if (limbs x).length ≤ 2 then x else 0
def xk (x : Nat) : Bool := decide ((limbs x).length ≤ 2)
theorem q0L (x : Nat) : xw x ≤ 18446744073709551615 := by
 unfold xw; split
 ·exact Nat.le_of_lt_succ (Is (by assumption))
 ·omega
theorem xw_y {x : Nat} (h : (limbs x).length ≤ 2) : xw x = x ∧ xk x = true := ⟨if_pos h, decide_eq_true h⟩
theorem xw_n {x : Nat} (h : ¬ (limbs x).length ≤ 2) : xw x = 0 ∧ xk x = false := ⟨if_neg h, decide_eq_false h⟩
theorem Ow {x : Nat} (h : (limbs x).length = 2) : (limbs x).getD 0 0 + (limbs x).getD 1 0 * 2 ^ 32 = x := by
 have h1 := vO (x := x) (by omega)
 rw [h] at h1
 have h2 := qA (limbs x) 0
 simp only [Nat.reduceSub, Nat.zero_add, List.take_zero, valL, Nat.pow_zero, Nat.pow_one, Nat.one_mul] at h1 h2
 omega
theorem SE {v : Nat} (h : v ≠ 0) : bl v = bl (v / 2 ^ 1) + 1 := by
 by_cases e : v = 1
 ·subst e; decide
 ·exact Ah (k := 1) (show 2 ^ 1 ≤ v by omega)
theorem Da (l : List Nat) (u : Nat) : valL (l ++ [u]) = valL l + 4294967296 ^ l.length * u := by rw [z9]; simp [valL]
theorem Aw : ∀ (n : Nat), valL (List.replicate n 0) = 0
 | 0 => rfl
 | n + 1 => by rw [List.replicate_succ, valL, Aw n]
theorem Gk {l : List Nat} {u : Nat} (h : ∀ v ∈ l, v < 4294967296) (hu : u < 4294967296) : ∀ v ∈ l ++ [u], v < 4294967296 := by
 intro v hv
 rcases List.mem_append.1 hv with hv | hv
 ·exact h v hv
 ·rw [List.mem_singleton.1 hv]; exact hu
theorem Ik {l : List Nat} (hu : ∀ v ∈ l, v < 4294967296) (h : (limbs (valL l)).length = l.length) : l = limbs (valL l) := by
 have h1 := Bs hu
 have h2 := Bs (qH (valL l))
 rw [qn, h] at h2
 exact h1.trans h2.symm
theorem q0m {x n : Nat} (h : n < (limbs x).length) : 4294967296 ^ n ≤ x := by
 apply Nat.le_of_not_lt
 intro hl
 have := Dv (n := x) (k := n) hl
 unfold nl at this; omega
structure AddX (x y i c : Nat) (out : List Nat) : Prop where
 hl : out.length = i
 hu : ∀ u ∈ out, u < 4294967296
 hc : c ≤ 1
 hv : valL out + 4294967296 ^ i * c = valL ((limbs x).take i) + valL ((limbs y).take i)
 hi : i ≤ max (limbs x).length (limbs y).length + 1
 hm : i = max (limbs x).length (limbs y).length + 1 → c = 0 ∧ 4294967296 ^ (max (limbs x).length (limbs y).length) ≤ x + y
theorem AddX.start (x y : Nat) : AddX x y 0 0 [] := ⟨rfl, fun u hu => by simp at hu, by omega, by simp [valL], by omega, fun h => by omega⟩
theorem AddX.le {x y i c : Nat} {out : List Nat} (h : AddX x y i c out) (hc : i < (limbs x).length ∨ i < (limbs y).length ∨ c ≠ 0) : i ≤ max (limbs x).length (limbs y).length := by
 have := h.hi
 rcases Nat.lt_or_ge (max (limbs x).length (limbs y).length) i with e | e
 ·have := h.hm (by omega); omega
 ·exact e
theorem AddX.step {x y i c s : Nat} {out : List Nat} (h : AddX x y i c out) (hc : i < (limbs x).length ∨ i < (limbs y).length ∨ c ≠ 0) (hs : s = c + (limbs x).getD i 0 + (limbs y).getD i 0) :
    AddX x y (i + 1) (s / 2 ^ 32) (out ++ [s % 4294967296]) := by
  have hx := qb x i
  have hy := qb y i
  have hc1 := h.hc
  have hle := h.le hc
  refine ⟨by simp [h.hl], Gk h.hu (Nat.mod_lt _ (by omega)), by omega, ?_, by omega, ?_⟩
  · rw [Da, h.hl, qA, qA, Nat.pow_succ]
    have e : 4294967296 ^ i * (s % 4294967296) + 4294967296 ^ i * 4294967296 * (s / 2 ^ 32) = 4294967296 ^ i * s := by
      rw [Nat.mul_assoc, ← Nat.mul_add, show s / 2 ^ 32 = s / 4294967296 from rfl, Nat.mod_add_div]
    have e2 : 4294967296 ^ i * s = 4294967296 ^ i * c + 4294967296 ^ i * (limbs x).getD i 0 + 4294967296 ^ i * (limbs y).getD i 0 := by rw [hs, Nat.mul_add, Nat.mul_add]
    have := h.hv
    omega
  · intro e
    have hx0 : (limbs x).getD i 0 = 0 := qp (by omega)
    have hy0 : (limbs y).getD i 0 = 0 := qp (by omega)
    have hv := h.hv
    have hc0 : c = 1 := by omega
    rw [js (by omega), js (by omega), qn, qn, hc0, show i = max (limbs x).length (limbs y).length by omega] at hv
    refine ⟨by omega, by omega⟩
theorem AddX.step2 {x y i c s u : Nat} {out : List Nat} (h : AddX x y i c out) (hc : i < (limbs x).length ∨ i < (limbs y).length ∨ c ≠ 0) (hs : s = c + (limbs x).getD i 0 + (limbs y).getD i 0) (hu : u = s % 4294967296) :
    AddX x y (i + 1) (s / 2 ^ 32) (out ++ [u]) := by subst hu; exact h.step hc hs
theorem AddX.fin {x y i c : Nat} {out : List Nat} (h : AddX x y i c out) (h1 : ¬ i < (limbs x).length) (h2 : ¬ i < (limbs y).length) (h0 : c = 0) : out = limbs (x + y) := by
 have hv := h.hv
 rw [js (by omega), js (by omega), qn, qn, h0, Nat.mul_zero, Nat.add_zero] at hv
 rw [← hv]
 refine Ik h.hu ?_
 have l1 := Bp h.hu
 have l2 : (limbs x).length ≤ (limbs (valL out)).length := jV (by omega)
 have l3 : (limbs y).length ≤ (limbs (valL out)).length := jV (by omega)
 have hl := h.hl
 have hi := h.hi
 rcases Nat.lt_or_ge (max (limbs x).length (limbs y).length) i with e | e
 ·have h9 := (h.hm (by omega)).2
  have : max (limbs x).length (limbs y).length < (limbs (valL out)).length := by
   apply Nat.lt_of_not_le
   intro hl
   have h3 := jq (limbs (valL out)) (qH _)
   rw [qn] at h3
   have h4 := Nat.pow_le_pow_right (show 0 < 4294967296 by omega) hl
   omega
  omega
 ·omega
theorem NH {a b : List Nat} (hb : b ≠ []) (h : zD b = true) : zD (a ++ b) = true := by
 induction a with
 | nil => exact h
 | cons v r ih => rw [List.cons_append, Cc (by simp [hb])]; exact ih
theorem DT {x k : Nat} (hx : x ≠ 0) : List.replicate k 0 ++ limbs x = limbs (x * 4294967296 ^ k) := by
 have hne : limbs x ≠ [] := by rw [jN hx]; simp
 have hu : ∀ u ∈ List.replicate k 0 ++ limbs x, u < 4294967296 := by
  intro u hu
  rcases List.mem_append.1 hu with hu | hu
  ·exact rep_lt k u hu
  ·exact qH x u hu
 have := C5 hu (NH hne (Lp x))
 rw [z9, Aw, qn, List.length_replicate, Nat.zero_add, Nat.mul_comm] at this
 exact this.symm
theorem CV (s : Nat) : 4294967296 ^ (s / 32) * 2 ^ (s % 32) = 2 ^ s := by
 rw [show (4294967296 : Nat) = 2 ^ 32 from rfl, ← Nat.pow_mul, ← Nat.pow_add, Nat.div_add_mod]
structure UpX (x s i c : Nat) (out : List Nat) : Prop where
 hl : out.length = s / 32 + i
 hu : ∀ u ∈ out, u < 4294967296
 hc : c < 2 ^ (s % 32)
 hi : i ≤ (limbs x).length
 hv : valL out + 4294967296 ^ (s / 32 + i) * c = 4294967296 ^ (s / 32) * (valL ((limbs x).take i) * 2 ^ (s % 32))
theorem UpX.start (x s : Nat) : UpX x s 0 0 (List.replicate (s / 32) 0) := ⟨by simp, rep_lt _, Nat.pow_pos (by omega), by omega, by simp [valL, Aw]⟩
theorem UpX.step {x s i c d : Nat} {out : List Nat} (h : UpX x s i c out) (hi : i < (limbs x).length) (hd : d = c + (limbs x).getD i 0 * 2 ^ (s % 32)) : UpX x s (i + 1) (d / 2 ^ 32) (out ++ [d % 4294967296]) := by
 have hx := qb x i
 have hc := h.hc
 refine ⟨by simp [h.hl]; omega, Gk h.hu (Nat.mod_lt _ (by omega)), ?_, by omega, ?_⟩
 ·rw [Nat.div_lt_iff_lt_mul (by omega)]
  have h1 : (limbs x).getD i 0 * 2 ^ (s % 32) ≤ 4294967295 * 2 ^ (s % 32) := Nat.mul_le_mul_right _ (by omega)
  omega
 ·rw [Da, h.hl, qA, ← Nat.add_assoc, Nat.pow_succ]
  have e : 4294967296 ^ (s / 32 + i) * (d % 4294967296) + 4294967296 ^ (s / 32 + i) * 4294967296 * (d / 2 ^ 32) = 4294967296 ^ (s / 32 + i) * d := by
   rw [Nat.mul_assoc, ← Nat.mul_add, show d / 2 ^ 32 = d / 4294967296 from rfl, Nat.mod_add_div]
  have e2 : 4294967296 ^ (s / 32 + i) * d = 4294967296 ^ (s / 32 + i) * c + 4294967296 ^ (s / 32) * (4294967296 ^ i * (limbs x).getD i 0 * 2 ^ (s % 32)) := by
   rw [hd, Nat.mul_add, Nat.pow_add]; simp only [Nat.mul_assoc]
  have := h.hv
  rw [Nat.add_mul, Nat.mul_add]
  omega
theorem UpX.fin {x s i c : Nat} {out : List Nat} (h : UpX x s i c out) (hi : ¬ i < (limbs x).length) : valL (out ++ [c]) = x * 2 ^ s ∧ ∀ u ∈ out ++ [c], u < 4294967296 := by
 have hc := h.hc
 have h1 := Nat.pow_le_pow_right (show 0 < 2 by omega) (show s % 32 ≤ 32 by omega)
 refine ⟨?_, Gk h.hu (by omega)⟩
 have hv := h.hv
 rw [js (by omega), qn] at hv
 rw [Da, h.hl, hv, ← CV s, Nat.mul_left_comm]
theorem q0D {x s i c : Nat} {out : List Nat} (h : UpX x s i c out) : c + (limbs x).getD i 0 * 2 ^ (s % 32) < 18446744073709551616 := GS (qb x i) (by omega) h.hc
theorem BU : ∀ (k x : Nat), (limbs x).drop k = limbs (x / 4294967296 ^ k)
 | 0, x => by simp
 | k + 1, x => by
  by_cases e : x = 0
  ·subst e; simp [zB]
  ·rw [jN e, List.drop_succ_cons, BU k, Nat.pow_succ, Nat.mul_comm, Nat.div_div_eq_div_mul]
structure DownX (w r i : Nat) (out : List Nat) : Prop where
 hl : out.length = (limbs w).length
 hi : i ≤ (limbs w).length
 hu : ∀ u ∈ out, u < 4294967296
 hv : valL (out.take i) = w / 2 ^ r % 4294967296 ^ i
theorem DownX.start (w r : Nat) : DownX w r 0 (List.replicate (limbs w).length 0) := ⟨by simp, by omega, rep_lt _, by simp [valL, Nat.mod_one]⟩
theorem PA {m r : Nat} (hr : r ≤ 32) : m / 2 ^ r % 4294967296 = (m % 18446744073709551616) / 2 ^ r % 4294967296 := by
 have h1 : (2 : Nat) ^ r * 2 ^ (64 - r) = 18446744073709551616 := by rw [← Nat.pow_add, show r + (64 - r) = 64 by omega]
 have h2 : (2 : Nat) ^ (64 - r) = 4294967296 * 2 ^ (32 - r) := by rw [show (4294967296 : Nat) = 2 ^ 32 from rfl, ← Nat.pow_add]; congr 1; omega
 have h3 := Nat.div_add_mod m 18446744073709551616
 generalize m % 18446744073709551616 = v at *
 rw [← h3, ← h1, Nat.mul_assoc, Nat.mul_add_div (Nat.pow_pos (by omega)), h2, Nat.mul_assoc, Nat.mul_add_mod]
theorem DownX.step {w r i v : Nat} {out : List Nat} (h : DownX w r i out) (hr : r ≤ 32) (hi : i < (limbs w).length) (hv : v = (limbs w).getD i 0 + (limbs w).getD (i + 1) 0 * 4294967296) :
    DownX w r (i + 1) (out.set i (v / 2 ^ r % 4294967296)) := by
  have hl := h.hl
  refine ⟨by simp [hl], by omega, jv h.hu (Nat.mod_lt _ (by omega)), ?_⟩
  rw [jJ (by omega), h.hv, Nat.mod_pow_succ]
  congr 2
  have e1 := zR (qH w) i
  have e2 := zR (qH w) (i + 1)
  rw [qn] at e1 e2
  rw [Nat.pow_succ, ← Nat.div_div_eq_div_mul] at e2
  rw [e1, e2] at hv
  rw [Nat.div_div_eq_div_mul, Nat.mul_comm, ← Nat.div_div_eq_div_mul, @PA (w / 4294967296 ^ i) r hr]
  congr 2
  generalize w / 4294967296 ^ i = m at *
  omega
theorem DownX.fin {w r i : Nat} {out : List Nat} (h : DownX w r i out) (hi : ¬ i < (limbs w).length) : valL out = w / 2 ^ r := by
 have hv := h.hv
 have h1 := h.hi
 have e : i = (limbs w).length := by omega
 have hl := h.hl
 rw [js (by omega)] at hv
 rw [hv, Nat.mod_eq_of_lt]
 have := jq (limbs w) (qH w)
 rw [qn, ← e] at this
 exact Nat.lt_of_le_of_lt (Nat.div_le_self _ _) this
theorem HY (x s : Nat) : x / 4294967296 ^ (s / 32) / 2 ^ (s % 32) = x / 2 ^ s := by rw [Nat.div_div_eq_div_mul, CV]
theorem MF {x s : Nat} (h : (limbs x).length ≤ s / 32) : 0 = x / 2 ^ s := by
 rw [← HY, Nat.div_eq_of_lt (a := x), Nat.zero_div]
 have h1 := jq (limbs x) (qH x)
 rw [qn] at h1
 exact Nat.lt_of_lt_of_le h1 (Nat.pow_le_pow_right (by omega) h)
theorem H3 : ∀ {ls : List Nat} {k d : Nat}, k < ls.length → ls.getD k 0 = 0 → valL (ls.set k d) = valL ls + 4294967296 ^ k * d
 | u :: r, 0, d, _, h => by simp at h; subst h; simp [valL]; omega
 | u :: r, k + 1, d, hk, h => by
  simp only [List.getD_cons_succ] at h
  simp only [List.length_cons] at hk
  rw [List.set_cons_succ, valL, valL, H3 (by omega) h, Nat.pow_succ, Nat.mul_add, ← Nat.mul_assoc, Nat.mul_comm 4294967296 (4294967296 ^ k)]; omega
structure DX (A V L : Nat) (z : Int) (q : List Nat) (r : Nat) : Prop where
 hz : -1 ≤ z
 hz1 : z < L
 hl : q.length = L
 hu : ∀ u ∈ q, u < 4294967296
 hv : A = valL q * V + r
 hr : r < V * 4294967296 ^ (z + 1).toNat
 h0 : ∀ j : Nat, (j : Int) ≤ z → q.getD j 0 = 0
theorem DX.start {A V L n : Nat} (hn0 : 0 < n) (hn : n = (limbs V).length) (hn : n ≤ (limbs A).length) (hL : L = (limbs A).length - n + 1) : DX A V L (((limbs A).length : Int) - n) (List.replicate L 0) A := by
 refine ⟨by omega, by omega, by simp, rep_lt _, by rw [Aw]; omega, ?_, fun j _ => ?_⟩
 ·have h1 := jq (limbs A) (qH A)
  rw [qn] at h1
  have h2 := q0m (x := V) (n := n - 1) (by omega)
  have h3 : (4294967296 : Nat) ^ (limbs A).length = 4294967296 ^ (n - 1) * 4294967296 ^ ((limbs A).length - n + 1) := by rw [← Nat.pow_add]; congr 1; omega
  rw [show ((((limbs A).length : Int) - n + 1).toNat) = (limbs A).length - n + 1 by omega]
  rw [h3] at h1
  exact Nat.lt_of_lt_of_le h1 (Nat.mul_le_mul_right _ h2)
 ·simp [List.getD_eq_getElem?_getD, List.getElem?_replicate]; split <;> rfl
structure EX (V k r d p : Nat) : Prop where
 hp : p = V * d * 4294967296 ^ k
 hd : r / (V * 4294967296 ^ k) ≤ d
 h1 : d ≤ 4294967295
theorem DX.est {A V L n k T : Nat} {z : Int} {q : List Nat} {r : Nat} (h : DX A V L z q r) (hz : 0 ≤ z) (hk : k = z.toNat) (hV : 0 < V) (hn0 : 0 < n) (hn : n = (limbs V).length)
    (hT : T = (limbs r).getD (k + n) 0 * 4294967296 + (limbs r).getD (k + n - 1) 0) :
    EX V k r (min (T / (limbs V).getD (n - 1) 0) 4294967295) (V * min (T / (limbs V).getD (n - 1) 0) 4294967295 * 4294967296 ^ k) := by
  have hP := Nat.mul_pos hV (Nat.pow_pos (n := k) (show 0 < 4294967296 by omega))
  have hr := h.hr
  rw [show (z + 1).toNat = k + 1 by omega, Nat.pow_succ, ← Nat.mul_assoc] at hr
  have hq : r / (V * 4294967296 ^ k) < 4294967296 := by rw [Nat.div_lt_iff_lt_mul hP, Nat.mul_comm]; exact hr
  refine ⟨rfl, Nat.le_min.2 ⟨?_, by omega⟩, Nat.min_le_right _ _⟩
  have hv := E7 V (n - 1) (by omega)
  have hvp : 0 < (limbs V).getD (n - 1) 0 := by
    have := vX (x := V) (by omega)
    rw [← hn] at this; omega
  rw [Nat.le_div_iff_mul_le hvp]
  have e1 := zR (qH r) (k + n)
  have e2 := zR (qH r) (k + n - 1)
  rw [qn] at e1 e2
  have hVl := jq (limbs V) (qH V)
  rw [qn, ← hn] at hVl
  -- the top of r
  have hT2 : T = r / 4294967296 ^ (k + n - 1) := by
    have hrl : r / 4294967296 ^ (k + n - 1) < 18446744073709551616 := by
      rw [Nat.div_lt_iff_lt_mul (Nat.pow_pos (by omega))]
      have e3 : 18446744073709551616 * 4294967296 ^ (k + n - 1) = 4294967296 ^ n * 4294967296 ^ k * 4294967296 := by
        rw [← Nat.pow_add, show (18446744073709551616 : Nat) = 4294967296 ^ 2 from rfl, ← Nat.pow_add, ← Nat.pow_succ]; congr 1; omega
      rw [e3]
      refine Nat.lt_of_lt_of_le hr (Nat.mul_le_mul_right _ (Nat.mul_le_mul_right _ (Nat.le_of_lt hVl)))
    have e4 : r / 4294967296 ^ (k + n) = r / 4294967296 ^ (k + n - 1) / 4294967296 := by
      rw [Nat.div_div_eq_div_mul, ← Nat.pow_succ]; congr 2; omega
    rw [e4] at e1
    rw [hT, e1, e2]
    generalize r / 4294967296 ^ (k + n - 1) = m at *
    omega
  rw [hT2, Nat.le_div_iff_mul_le (Nat.pow_pos (by omega)), hv]
  have h5 : V / 4294967296 ^ (n - 1) * 4294967296 ^ (n - 1) ≤ V := Nat.div_mul_le_self _ _
  have h6 : r / (V * 4294967296 ^ k) * (V * 4294967296 ^ k) ≤ r := Nat.div_mul_le_self _ _
  have e5 : (4294967296 : Nat) ^ (k + n - 1) = 4294967296 ^ (n - 1) * 4294967296 ^ k := by rw [← Nat.pow_add]; congr 1; omega
  rw [e5, Nat.mul_assoc, ← Nat.mul_assoc (V / _)]
  exact Nat.le_trans (Nat.mul_le_mul_left _ (Nat.mul_le_mul_right _ h5)) h6
theorem EX.gt {V k r d p : Nat} (h : EX V k r d p) (hV : 0 < V) (hc : r < p) : 1 ≤ d ∧ V * 4294967296 ^ k ≤ p ∧ EX V k r (d - 1) (p - V * 4294967296 ^ k) := by
 have hP := Nat.mul_pos hV (Nat.pow_pos (n := k) (show 0 < 4294967296 by omega))
 have h1 := h.h1
 have hp : p = d * (V * 4294967296 ^ k) := by rw [h.hp, Nat.mul_comm V d, Nat.mul_assoc]
 have hlt : r / (V * 4294967296 ^ k) < d := by rw [Nat.div_lt_iff_lt_mul hP, ← hp]; exact hc
 have hd1 : 1 ≤ d := Nat.lt_of_le_of_lt (Nat.zero_le _) hlt
 refine ⟨hd1, ?_, ?_, Nat.le_sub_one_of_lt hlt, by omega⟩
 ·rw [hp]; exact Nat.le_mul_of_pos_left _ (by omega)
 ·rw [Nat.mul_comm V (d - 1), Nat.mul_assoc, Nat.sub_mul, ← hp, Nat.one_mul]
theorem DX.next {A V L k d p : Nat} {z : Int} {q : List Nat} {r : Nat} (h : DX A V L z q r) (hz : 0 ≤ z) (hk : k = z.toNat) (hV : 0 < V) (e : EX V k r d p) (hc : p ≤ r) : DX A V L (z - 1) (q.set k d) (r - p) := by
 have hP := Nat.mul_pos hV (Nat.pow_pos (n := k) (show 0 < 4294967296 by omega))
 have hz1 := h.hz1
 have hl := h.hl
 have h1 := e.h1
 have hp : p = d * (V * 4294967296 ^ k) := by rw [e.hp, Nat.mul_comm V d, Nat.mul_assoc]
 have hd : r < (d + 1) * (V * 4294967296 ^ k) := by rw [← Nat.div_lt_iff_lt_mul hP]; exact Nat.lt_succ_of_le e.hd
 refine ⟨by omega, by omega, by simp [hl], jv h.hu (by omega), ?_, ?_, fun j hj => ?_⟩
 ·rw [H3 (by omega) (h.h0 k (by omega)), Nat.add_mul, h.hv]
  rw [Nat.mul_comm (4294967296 ^ k) d, Nat.mul_assoc, Nat.mul_comm (4294967296 ^ k) V, ← hp]; omega
 ·rw [show (z - 1 + 1).toNat = k by omega]
  rw [Nat.add_mul, ← hp] at hd; omega
 ·rw [B1 (by omega)]; exact h.h0 j (by omega)
theorem DX.fin {x y s L : Nat} {z : Int} {q : List Nat} {r : Nat} (h : DX (x * 2 ^ s) (y * 2 ^ s) L z q r) (hy : 0 < y) (hz : z < 0) : valL q = x / y ∧ r / 2 ^ s = x % y := by
 have hp := Nat.pow_pos (n := s) (show 0 < 2 by omega)
 have h1 := h.hz
 have hr := h.hr
 have hv := h.hv
 rw [show (z + 1).toNat = 0 by omega, Nat.pow_zero, Nat.mul_one] at hr
 have e1 : (x * 2 ^ s) / (y * 2 ^ s) = valL q := by
  rw [hv, Nat.mul_comm (valL q), Nat.mul_add_div (Nat.mul_pos hy hp), Nat.div_eq_of_lt hr]; rfl
 have e2 : (x * 2 ^ s) % (y * 2 ^ s) = r := by rw [hv, Nat.mul_comm (valL q), Nat.mul_add_mod, Nat.mod_eq_of_lt hr]
 rw [Nat.mul_div_mul_right _ _ hp] at e1
 rw [Nat.mul_mod_mul_right] at e2
 exact ⟨e1.symm, by rw [← e2, Nat.mul_div_cancel _ hp]⟩
theorem GR {x k a c : Nat} (h : lt2 x a) (hk : k ≤ c) : lt2 (x * 4294967296 ^ k) (a + 32 * c) := by
 unfold lt2 at *
 rw [show (4294967296 : Nat) = 2 ^ 32 from rfl, ← Nat.pow_mul, Nat.pow_add]
 exact Nat.lt_of_lt_of_le (Nat.mul_lt_mul_of_pos_right h (Nat.pow_pos (by omega))) (Nat.mul_le_mul_left _ (Nat.pow_le_pow_right (by omega) (by omega)))
theorem Aq {x s a c : Nat} (h : lt2 x a) (hs : s ≤ c) : lt2 (x * 2 ^ s) (a + c) := by
 unfold lt2 at *
 rw [Nat.pow_add]
 exact Nat.lt_of_lt_of_le (Nat.mul_lt_mul_of_pos_right h (Nat.pow_pos (by omega))) (Nat.mul_le_mul_left _ (Nat.pow_le_pow_right (by omega) hs))
theorem G4 {y : Nat} : lt2 (y / 4294967296 ^ ((limbs y).length - 1)) 32 := by
 unfold lt2
 rw [Nat.div_lt_iff_lt_mul (Nat.pow_pos (by omega)), show (2 : Nat) ^ 32 = 4294967296 from rfl, Nat.mul_comm, ← Nat.pow_succ]
 have h1 := jq (limbs y) (qH y)
 rw [qn] at h1
 exact Nat.lt_of_lt_of_le h1 (Nat.pow_le_pow_right (by omega) (by omega))
theorem Wi {b : Nat} (h : b < 4294967296) : qo .or .u64 0 (b : Int) ((0 + b : Nat) : Int) := AA (a := 0) (b := b) 0 32 rfl h (by omega)
def dm (d : Nat) : Nat := if d = 1 then 0 else d
theorem FT (d : Nat) : denL d = limbs (dm d) := by unfold denL dm; split <;> rfl
theorem MA {d b : Nat} (h : le2 d b) : lt2 (dm d) (b + 1) := by
 unfold dm; split
 ·exact Nat.pow_pos (by omega)
 ·exact z6 h
theorem WK {d e : Nat} (hd : d ≠ 0) (he : e ≠ 0) : cmpN (dm d) (dm e) = 0 ↔ d = e := by
 rw [Bb]; unfold dm; split <;> split <;> omega
theorem ysame {x y : Rat} (h : ¬ decide (x.num < 0) = decide (y.num < 0) ∨ ¬ cmpN x.num.natAbs y.num.natAbs = 0 ∨ ¬ cmpN (dm x.den) (dm y.den) = 0) : false = decide (x = y) := by
 symm; apply decide_eq_false
 intro e; subst e
 rcases h with h | h | h
 ·exact h rfl
 ·exact h (Bb.2 rfl)
 ·exact h (Bb.2 rfl)
theorem Zf {x y : Rat} (h1 : decide (x.num < 0) = decide (y.num < 0)) (h2 : cmpN x.num.natAbs y.num.natAbs = 0) : decide (cmpN (dm x.den) (dm y.den) = 0) = decide (x = y) := by
 have e : cmpN (dm x.den) (dm y.den) = 0 ↔ x = y := by
  rw [WK x.den_nz y.den_nz, Ck x y]
  constructor
  ·intro h; exact ⟨h1, by rw [Bb.1 h2], by rw [h]⟩
  ·rintro ⟨_, _, h⟩; exact vI x.den_nz y.den_nz h
 rw [decide_eq_decide]; exact e
theorem G7 (x : Rat) : (-x).num.natAbs = x.num.natAbs := by rw [Rat.neg_num, Int.natAbs_neg]
theorem Bn {x : Rat} {b : Bd} (h : Bnd .rat b x) : Bnd .rat (.n b.nb) (-x) := by
 have h1 := h.rat
 exact ⟨by rw [G7]; exact h1.1, by rw [Rat.neg_den]; exact h1.2⟩
theorem NC {x : Rat} (h : ¬ x.num < 0) : decide (0 < (limbs x.num.natAbs).length) = decide ((-x).num < 0) := by
 rw [decide_eq_decide, Rat.neg_num]
 have := @nl0 x.num.natAbs
 omega
theorem ND {x : Rat} (h : x.num < 0) : false = decide ((-x).num < 0) := by
 symm; apply decide_eq_false; rw [Rat.neg_num]; omega
theorem wr (v : Int) : ((v : Rat)).num = v := Rat.num_intCast v
theorem Do (v : Int) : ((v : Rat)).den = 1 := Rat.den_intCast v
def mkC' (d : Int) : Int := if d = 0 then 3 else 0
theorem q0j (d : Int) : (mkC' d).natAbs ≤ 3 := by unfold mkC'; split <;> decide
theorem Kg (n d : Int) : sgQ (decide (decide (n < 0) ≠ decide (d < 0))) n.natAbs d.natAbs = (n : Rat) / (d : Rat) := by
 by_cases h : d = 0
 ·subst h; simp [By, Rat.div_def]
 ·have := we (x := (n : Rat)) (y := (d : Rat)) (by rw [wr]; omega)
  rw [wr, wr, Do, Do, Nat.mul_one, Nat.one_mul] at this
  exact this
theorem wu {n d : Int} {b c : Nat} (hn : n.natAbs ≤ b) (hd : d.natAbs ≤ c) : Bnd .rat (.n (max (Nat.log2 b + 1) (Nat.log2 c + 1))) ((n : Rat) / (d : Rat)) := by
 rw [← Kg]
 exact Cn (q7 (Nat.le_max_left _ _) (zC hn)) (q7 (Nat.le_max_right _ _) (zC hd))
def Bd.mx : Bd → Nat
 | .u => 0
 | .n b => b
 | .s _ e => e.mx
 | .p a b => max a.mx b.mx
abbrev V3 : Type := Rat × Rat × Rat
abbrev tV3 : Ty := .pr .rat (.pr .rat .rat)
abbrev bV3 (m : Nat) : Bd := .p (.n m) (.p (.n m) (.n m))
theorem vi {b : Bd} {x : Rat} {m : Nat} (h : Bnd .rat b x) (hm : b.nb ≤ m) : Bnd .rat (.n m) x := by
 have h := h.rat
 exact ⟨q7 hm h.1, Nat.le_trans h.2 (Nat.pow_le_pow_right (by omega) hm)⟩
theorem Bd.nb_mx (b : Bd) : b.nb ≤ b.mx := by cases b <;> simp [Bd.nb, Bd.mx]
theorem Bd.l_mx (b : Bd) : b.l.mx ≤ b.mx := by cases b <;> simp [Bd.l, Bd.mx] <;> omega
theorem Bd.r_mx (b : Bd) : b.r.mx ≤ b.mx := by cases b <;> simp [Bd.r, Bd.mx] <;> omega
theorem Bnd.ratM {b : Bd} {x : Rat} (h : Bnd .rat b x) : Bnd .rat (.n b.mx) x := vi h b.nb_mx
theorem Bnd.v3 {b : Bd} {x : V3} (h : Bnd tV3 b x) : Bnd .rat (.n b.mx) x.1 ∧ Bnd .rat (.n b.mx) x.2.1 ∧ Bnd .rat (.n b.mx) x.2.2 := by
 have h1 := h.pr
 have h2 := h1.2.pr
 have := b.l_mx; have := b.r_mx; have := b.r.l_mx; have := b.r.r_mx
 exact ⟨vi h1.1 (Nat.le_trans (Bd.nb_mx _) (by omega)), vi h2.1 (Nat.le_trans (Bd.nb_mx _) (by omega)), vi h2.2 (Nat.le_trans (Bd.nb_mx _) (by omega))⟩
theorem A7 {m : Nat} {x : V3} (h : Bnd .rat (.n m) x.1 ∧ Bnd .rat (.n m) x.2.1 ∧ Bnd .rat (.n m) x.2.2) : (WV.c (.agg [.dt tV3 (bV3 m) x])).ok := qT h
def addV (p q : V3) : V3 := (p.1 + q.1, p.2.1 + q.2.1, p.2.2 + q.2.2)
def mulV (p q : V3) : V3 := (p.1 * q.1, p.2.1 * q.2.1, p.2.2 * q.2.2)
def jc (r : Rat) (p : V3) : V3 := (r * p.1, r * p.2.1, r * p.2.2)
def dotQ (p q : V3) : Rat := p.1 * q.1 + p.2.1 * q.2.1 + p.2.2 * q.2.2
def zj (p q : V3) : V3 := (p.2.1 * q.2.2 - p.2.2 * q.2.1, p.2.2 * q.1 - p.1 * q.2.2, p.1 * q.2.1 - p.2.1 * q.1)
theorem j6 {x y : Rat} {a b : Nat} (hx : Bnd .rat (.n a) x) (hy : Bnd .rat (.n b) y) : Bnd .rat (.n (a + b)) (x * y) := B3 hx hy
theorem zx {x y : Rat} {a b : Nat} (hx : Bnd .rat (.n a) x) (hy : Bnd .rat (.n b) y) : Bnd .rat (.n (a + b + 1)) (x + y) := DU hx hy
theorem wJ {x y : Rat} {a b : Nat} (hx : Bnd .rat (.n a) x) (hy : Bnd .rat (.n b) y) : Bnd .rat (.n (a + b + 1)) (x - y) := Em hx hy
theorem wK {b c : Bd} {p q : V3} (hp : Bnd tV3 b p) (hq : Bnd tV3 c q) : Bnd tV3 (bV3 (b.mx + c.mx + 1)) (addV p q) :=
 ⟨zx hp.v3.1 hq.v3.1, zx hp.v3.2.1 hq.v3.2.1, zx hp.v3.2.2 hq.v3.2.2⟩
theorem Xv {b c : Bd} {p q : V3} (hp : Bnd tV3 b p) (hq : Bnd tV3 c q) : Bnd tV3 (bV3 (b.mx + c.mx)) (mulV p q) :=
 ⟨j6 hp.v3.1 hq.v3.1, j6 hp.v3.2.1 hq.v3.2.1, j6 hp.v3.2.2 hq.v3.2.2⟩
theorem Cm {b c : Bd} {r : Rat} {q : V3} (hp : Bnd .rat b r) (hq : Bnd tV3 c q) : Bnd tV3 (bV3 (b.mx + c.mx)) (jc r q) :=
 ⟨j6 hp.ratM hq.v3.1, j6 hp.ratM hq.v3.2.1, j6 hp.ratM hq.v3.2.2⟩
theorem qg {x : Rat} {a b : Nat} (h : Bnd .rat (.n a) x) (hm : a ≤ b) : Bnd .rat (.n b) x := vi h hm
theorem EO {b c : Bd} {p q : V3} (hp : Bnd tV3 b p) (hq : Bnd tV3 c q) : Bnd .rat (.n (3 * (b.mx + c.mx) + 2)) (dotQ p q) :=
 qg (zx (zx (j6 hp.v3.1 hq.v3.1) (j6 hp.v3.2.1 hq.v3.2.1)) (j6 hp.v3.2.2 hq.v3.2.2)) (by omega)
theorem Pr {b c : Bd} {p q : V3} (hp : Bnd tV3 b p) (hq : Bnd tV3 c q) : Bnd tV3 (bV3 (2 * (b.mx + c.mx) + 1)) (zj p q) :=
 ⟨qg (wJ (j6 hp.v3.2.1 hq.v3.2.2) (j6 hp.v3.2.2 hq.v3.2.1)) (by omega), qg (wJ (j6 hp.v3.2.2 hq.v3.1) (j6 hp.v3.1 hq.v3.2.2)) (by omega), qg (wJ (j6 hp.v3.1 hq.v3.2.1) (j6 hp.v3.2.1 hq.v3.1)) (by omega)⟩
theorem Oz {p q : V3} : p = q ↔ p.1 = q.1 ∧ p.2.1 = q.2.1 ∧ p.2.2 = q.2.2 := by
 obtain ⟨a, b, c⟩ := p; obtain ⟨d, e, f⟩ := q; simp
theorem FA {p q : V3} (h : ¬ p.1 = q.1 ∨ ¬ p.2.1 = q.2.1 ∨ ¬ p.2.2 = q.2.2) : false = decide (p = q) := by
 symm; apply decide_eq_false; intro e; subst e; simp at h
theorem YK {p q : V3} (h1 : p.1 = q.1) (h2 : p.2.1 = q.2.1) (h3 : p.2.2 = q.2.2) : true = decide (p = q) := (decide_eq_true (Oz.2 ⟨h1, h2, h3⟩)).symm
theorem nd {p : Prop} [Decidable p] (h : (!decide p) = true) : ¬ p := by simpa using h
theorem nd' {p : Prop} [Decidable p] (h : ¬ (!decide p) = true) : p := by simpa using h
theorem yd {p : Prop} [Decidable p] (h : decide p = true) : p := of_decide_eq_true h
theorem yd' {p : Prop} [Decidable p] (h : ¬ decide p = true) : ¬ p := fun e => h (decide_eq_true e)
theorem j1 {α : Type} {l : List α} {d : α} {i : Nat} (h : i < l.length) : l.getD i d = l[i] := by simp [List.getD_eq_getElem?_getD, h]
theorem vC {α : Type} {l : List α} {d : α} {i : Nat} (h : i < l.length) : l.take (i + 1) = l.take i ++ [l.getD i d] := by
 rw [j1 h, List.take_succ_eq_append_getElem h]
theorem Ei {α : Type} {l : List α} {v : α} {i : Nat} (h : i < l.length) : (l.set i v).take (i + 1) = l.take i ++ [v] := by
 rw [List.take_succ_eq_append_getElem (by simpa using h), List.getElem_set_self]
 congr 1
 rw [List.take_set, List.set_eq_of_length_le (by simp; omega)]
structure Cpy {α : Type} (l out : List α) (i : Nat) : Prop where
 hl : out.length = l.length
 hi : i ≤ l.length
 ht : out.take i = l.take i
theorem Cpy.start {α : Type} {l : List α} (d : α) : Cpy l (List.replicate l.length d) 0 := ⟨by simp, by omega, by simp⟩
theorem Cpy.step {α : Type} {l out : List α} {i : Nat} (h : Cpy l out i) (d : α) (hi : i < l.length) : Cpy l (out.set i (l.getD i d)) (i + 1) :=
 ⟨by simp [h.hl], by omega, by rw [Ei (by rw [h.hl]; exact hi), vC hi, h.ht]⟩
theorem Cpy.fin {α : Type} {l out : List α} {i : Nat} (h : Cpy l out i) (hi : ¬ i < l.length) : out = l := by
 have h1 := h.hl
 have h2 := h.hi
 have := h.ht
 rwa [List.take_of_length_le (by omega), List.take_of_length_le (by omega)] at this
theorem Cpy.step' {α : Type} {l out : List α} {i : Nat} (h : Cpy l out i) (d : α) (hi : i < l.length) {v : α} (hv : v = l.getD i d) : Cpy l (out.set i v) (i + 1) := by
 subst hv; exact h.step d hi
theorem Cpy.start' {α : Type} {l : List α} {n : Nat} (d : α) (hn : n = l.length) : Cpy l (List.replicate n d) 0 := by subst hn; exact Cpy.start d
def subL (p q : List Rat) : List Rat := List.zipWith (· - ·) p q
def addL (p q : List Rat) : List Rat := List.zipWith (· + ·) p q
def j0 (c : Rat) (p : List Rat) : List Rat := p.map (c * ·)
theorem Cp {p q : List Rat} (h : p.length = q.length) : (subL p q).length = p.length := by simp [subL, h]
theorem zf {p q : List Rat} (h : p.length = q.length) : (addL p q).length = p.length := by simp [addL, h]
theorem vR (c : Rat) (p : List Rat) : (j0 c p).length = p.length := by simp [j0]
theorem Ri {p q : List Rat} {i : Nat} (h : i < p.length) (k : i < q.length) : p.getD i 0 - q.getD i 0 = (subL p q).getD i 0 := by
 rw [j1 h, j1 k, j1 (by simp [subL]; omega)]; simp [subL]
theorem P5 {p q : List Rat} {i : Nat} (h : i < p.length) (k : i < q.length) : p.getD i 0 + q.getD i 0 = (addL p q).getD i 0 := by
 rw [j1 h, j1 k, j1 (by simp [addL]; omega)]; simp [addL]
theorem LN {c : Rat} {p : List Rat} {i : Nat} (h : i < p.length) : c * p.getD i 0 = (j0 c p).getD i 0 := by
 rw [j1 h, j1 (by simp [j0]; omega)]; simp [j0]
theorem Bnd.slm {b : Bd} {l : List Rat} (h : Bnd (.sl .rat) b l) : l.length ≤ b.len ∧ ∀ v ∈ l, Bnd .rat (.n b.mx) v := by
 have h1 := h.sl
 refine ⟨h1.1, fun v hv => vi (h1.2 v hv) ?_⟩
 cases b with
 | s n e => exact Bd.nb_mx e
 | _ => simp [Bd.e, Bd.nb]
theorem J6 {b c : Bd} {p q : List Rat} (hp : Bnd (.sl .rat) b p) (hq : Bnd (.sl .rat) c q) : Bnd (.sl .rat) (.s b.len (.n (b.mx + c.mx + 1))) (subL p q) := by
 refine ⟨by have := hp.slm.1; simp [subL]; omega, fun v hv => ?_⟩
 obtain ⟨i, hi, rfl⟩ := List.getElem_of_mem hv
 simp only [subL, List.getElem_zipWith]
 exact wJ (hp.slm.2 _ (List.getElem_mem _)) (hq.slm.2 _ (List.getElem_mem _))
theorem EA {b c : Bd} {p q : List Rat} (hp : Bnd (.sl .rat) b p) (hq : Bnd (.sl .rat) c q) : Bnd (.sl .rat) (.s b.len (.n (b.mx + c.mx + 1))) (addL p q) := by
 refine ⟨by have := hp.slm.1; simp [addL]; omega, fun v hv => ?_⟩
 obtain ⟨i, hi, rfl⟩ := List.getElem_of_mem hv
 simp only [addL, List.getElem_zipWith]
 exact zx (hp.slm.2 _ (List.getElem_mem _)) (hq.slm.2 _ (List.getElem_mem _))
theorem IX {b c : Bd} {x : Rat} {p : List Rat} (hx : Bnd .rat b x) (hp : Bnd (.sl .rat) c p) : Bnd (.sl .rat) (.s c.len (.n (b.mx + c.mx))) (j0 x p) := by
 refine ⟨by have := hp.slm.1; simp [j0]; omega, fun v hv => ?_⟩
 obtain ⟨i, hi, rfl⟩ := List.getElem_of_mem hv
 simp only [j0, List.getElem_map]
 exact j6 hx.ratM (hp.slm.2 _ (List.getElem_mem _))
def inG (f : Nat → Rat) (o : List Rat) (i : Nat) : Nat → List Rat
 | 0 => o
 | j + 1 => (inG f o i j).set (i + j) ((inG f o i j).getD (i + j) 0 + f j)
def outG (f : Nat → Nat → Rat) (o : List Rat) (n : Nat) : Nat → List Rat
 | 0 => o
 | i + 1 => inG (f i) (outG f o n i) i n
def divG (c : Nat → Rat) (o : List Rat) : Nat → List Rat
 | 0 => o
 | k + 1 => (divG c o k).set k ((divG c o k).getD k 0 / c k)
theorem G1 (f : Nat → Rat) (o : List Rat) (i : Nat) : ∀ j, (inG f o i j).length = o.length
 | 0 => rfl
 | j + 1 => by simp [inG, G1 f o i j]
theorem Ce (f : Nat → Nat → Rat) (o : List Rat) (n : Nat) : ∀ i, (outG f o n i).length = o.length
 | 0 => rfl
 | i + 1 => by simp [outG, G1, Ce f o n i]
theorem E1 (c : Nat → Rat) (o : List Rat) : ∀ k, (divG c o k).length = o.length
 | 0 => rfl
 | k + 1 => by simp [divG, E1 c o k]
theorem qG (n : Nat) : Bnd .rat (.n n) (0 : Rat) := ⟨by show (0 : Nat) < _; exact Nat.pow_pos (by omega), by show 1 ≤ _; exact Nat.one_le_two_pow⟩
theorem v8 {l : List Rat} {m : Nat} (h : ∀ v ∈ l, Bnd .rat (.n m) v) (i : Nat) : Bnd .rat (.n m) (l.getD i 0) := by
 rw [List.getD_eq_getElem?_getD]
 cases hq : l[i]? with
 | none => exact qG m
 | some u => exact h u (List.mem_of_getElem? hq)
theorem Og {l : List Rat} {m i : Nat} {v : Rat} (h : ∀ u ∈ l, Bnd .rat (.n m) u) (hv : Bnd .rat (.n m) v) : ∀ u ∈ l.set i v, Bnd .rat (.n m) u := fun u hu => by
 rcases List.mem_or_eq_of_mem_set hu with h' | rfl
 ·exact h u h'
 ·exact hv
theorem IP (n m : Nat) : ∀ u ∈ List.replicate n (0 : Rat), Bnd .rat (.n m) u := fun u hu => by rw [List.eq_of_mem_replicate hu]; exact qG m
theorem Lf {f : Nat → Rat} {o : List Rat} {i m K : Nat} (ho : ∀ v ∈ o, Bnd .rat (.n m) v) (hf : ∀ j, Bnd .rat (.n K) (f j)) : ∀ j, ∀ v ∈ inG f o i j, Bnd .rat (.n (m + j * (K + 1))) v
 | 0 => by simpa [inG] using ho
 | j + 1 => by
  have ih := Lf (i := i) ho hf j
  rw [inG]
  refine Og (fun u hu => qg (ih u hu) (by rw [Nat.add_mul]; omega)) (qg (zx (v8 ih _) (hf j)) (by rw [Nat.add_mul]; omega))
theorem Fj {f : Nat → Nat → Rat} {o : List Rat} {n K : Nat} (ho : ∀ v ∈ o, Bnd .rat (.n 0) v) (hf : ∀ i j, Bnd .rat (.n K) (f i j)) : ∀ i, ∀ v ∈ outG f o n i, Bnd .rat (.n (i * (n * (K + 1)))) v
 | 0 => by simpa [outG] using ho
 | i + 1 => by
  have ih := Fj (n := n) ho hf i
  rw [outG]
  exact fun v hv => qg (Lf ih (hf i) n v hv) (by rw [Nat.add_mul]; omega)
theorem A2 {x y : Rat} {a b : Nat} (hx : Bnd .rat (.n a) x) (hy : Bnd .rat (.n b) y) : Bnd .rat (.n (a + b)) (x / y) := wv hx hy
theorem HX {c : Nat → Rat} {o : List Rat} {m K : Nat} (ho : ∀ v ∈ o, Bnd .rat (.n m) v) (hc : ∀ k, Bnd .rat (.n K) (c k)) : ∀ k, (∀ v ∈ divG c o k, Bnd .rat (.n (m + K)) v) ∧ ∀ i, k ≤ i → (divG c o k).getD i 0 = o.getD i 0
 | 0 => ⟨fun v hv => qg (ho v hv) (by omega), fun _ _ => rfl⟩
 | k + 1 => by
  obtain ⟨h1, h2⟩ := HX ho hc k
  refine ⟨?_, fun i hi => ?_⟩
  ·rw [divG]
   refine Og h1 ?_
   rw [h2 k (Nat.le_refl _)]
   exact A2 (v8 ho k) (hc k)
  ·rw [divG, List.getD_eq_getElem?_getD, List.getElem?_set_ne (by omega), ← List.getD_eq_getElem?_getD]
   exact h2 i (by omega)
def Di (n : Int) : Nat → Rat
 | 0 => ((1 : Int) : Rat)
 | k + 1 => Di n k * (((n - (k : Int) : Int) : Rat) / (((k + 1 : Nat) : Int) : Rat))
theorem GC {n : Int} (hn : n.natAbs ≤ 64) : ∀ {k : Nat}, k ≤ 64 → Bnd .rat (.n (1 + 8 * k)) (Di n k)
 | 0, _ => ⟨by show (1 : Nat) < 2 ^ 1; omega, by show (1 : Nat) ≤ 2 ^ 1; omega⟩
 | k + 1, hk => by
  have h1 := wu (n := n - (k : Int)) (d := ((k + 1 : Nat) : Int)) (b := 128) (c := 128) (by omega) (by omega)
  have e : max (Nat.log2 128 + 1) (Nat.log2 128 + 1) = 8 := by decide
  rw [e] at h1
  exact qg (j6 (GC hn (by omega)) h1) (by omega)
def c2 (i : Nat) : Rat := [1, 2, 1].getD i 0
def c4 (i : Nat) : Rat := [1, 4, 6, 4, 1].getD i 0
theorem Bj {b : Bd} {l : List Rat} (h : Bnd (.sl .rat) b l) (i : Nat) : Bnd .rat (.n b.mx) (l.getD i 0) := v8 h.slm.2 i
def mulT (p q : List Rat) (i j : Nat) : Rat := (c2 i * p.getD i 0) * (c2 j * q.getD j 0)
def mulL (p q : List Rat) : List Rat := divG c4 (outG (mulT p q) (List.replicate 5 0) 3 3) 5
theorem j2 (p q : List Rat) : (mulL p q).length = 5 := by rw [mulL, E1, Ce]; rfl
theorem c2_b (i : Nat) : Bnd .rat (.n 2) (c2 i) := by
 refine v8 (fun v hv => ?_) i
 simp only [List.mem_cons, List.not_mem_nil, or_false] at hv
 rcases hv with rfl | rfl | rfl <;> exact ⟨by unfold lt2; decide, by unfold le2; decide⟩
theorem c4_b (i : Nat) : Bnd .rat (.n 3) (c4 i) := by
 refine v8 (fun v hv => ?_) i
 simp only [List.mem_cons, List.not_mem_nil, or_false] at hv
 rcases hv with rfl | rfl | rfl | rfl | rfl <;> exact ⟨by unfold lt2; decide, by unfold le2; decide⟩
theorem Ir {b c : Bd} {p q : List Rat} (hp : Bnd (.sl .rat) b p) (hq : Bnd (.sl .rat) c q) (i j : Nat) : Bnd .rat (.n (b.mx + c.mx + 4)) (mulT p q i j) :=
 qg (j6 (j6 (c2_b i) (Bj hp i)) (j6 (c2_b j) (Bj hq j))) (by omega)
theorem Iq {b c : Bd} {p q : List Rat} (hp : Bnd (.sl .rat) b p) (hq : Bnd (.sl .rat) c q) : Bnd (.sl .rat) (.s 5 (.n (9 * (b.mx + c.mx + 5) + 3))) (mulL p q) := by
 refine ⟨by rw [j2]; exact Nat.le_refl 5, fun v hv => ?_⟩
 have h := (HX (Fj (n := 3) (IP 5 0) (Ir hp hq) 3) c4_b 5).1 v hv
 exact qg h (by omega)
structure Acc (l p out : List Rat) (i : Nat) : Prop where
 hl : out.length = p.length
 hi : i ≤ p.length
 ht : out.take i = l.take i
 hd : ∀ k, i ≤ k → out.getD k 0 = p.getD k 0
theorem Acc.start (l p : List Rat) : Acc l p p 0 := ⟨rfl, by omega, by simp, fun _ _ => rfl⟩
theorem Acc.step {l p out : List Rat} {i : Nat} (h : Acc l p out i) (hl : l.length = p.length) (hi : i < p.length) {v : Rat} (hv : p.getD i 0 + v = l.getD i 0) : Acc l p (out.set i (out.getD i 0 + v)) (i + 1) := by
 have h1 := h.hl
 refine ⟨by simp [h1], by omega, ?_, fun k hk => ?_⟩
 ·rw [Ei (by omega), vC (l := l) (d := 0) (by omega), h.ht, h.hd i (Nat.le_refl _), hv]
 ·rw [List.getD_eq_getElem?_getD, List.getElem?_set_ne (by omega), ← List.getD_eq_getElem?_getD]
  exact h.hd k (by omega)
theorem Acc.fin {l p out : List Rat} {i : Nat} (h : Acc l p out i) (hl : l.length = p.length) (hi : ¬ i < p.length) : out = l := by
 have h1 := h.hl
 have h2 := h.hi
 have := h.ht
 rwa [List.take_of_length_le (by omega), List.take_of_length_le (by omega)] at this
theorem Acc.bnd {l p out : List Rat} {i m : Nat} (h : Acc l p out i) {v : Rat} (hv : p.getD i 0 + v = l.getD i 0) (hb : ∀ u ∈ l, Bnd .rat (.n m) u) {M : Nat} (hM : m ≤ M) : Bnd .rat (.n M) (out.getD i 0 + v) := by
 rw [h.hd i (Nat.le_refl _), hv]; exact qg (v8 hb i) hM
structure Prod3 (f : Nat → Nat → Rat) (out : List Rat) (i : Nat) : Prop where
 h : out = outG f (List.replicate 5 0) 3 i
 hi : i ≤ 3
structure Prod3J (f : Nat → Nat → Rat) (o out : List Rat) (i j : Nat) : Prop where
 h : out = inG (f i) o i j
 hj : j ≤ 3
theorem Prod3.start (f : Nat → Nat → Rat) {n : Nat} (hn : n = 5) : Prod3 f (List.replicate n 0) 0 := by subst hn; exact ⟨rfl, by omega⟩
theorem Prod3.len {f : Nat → Nat → Rat} {out : List Rat} {i : Nat} (h : Prod3 f out i) : out.length = 5 := by rw [h.h, Ce]; rfl
theorem Prod3J.len {f : Nat → Nat → Rat} {o out : List Rat} {i j : Nat} (h : Prod3J f o out i j) : out.length = o.length := by rw [h.h, G1]
theorem Prod3J.start (f : Nat → Nat → Rat) (o : List Rat) (i : Nat) : Prod3J f o o i 0 := ⟨rfl, by omega⟩
theorem Prod3J.step {f : Nat → Nat → Rat} {o out : List Rat} {i j k : Nat} {v : Rat} (h : Prod3J f o out i j) (hj : j < 3) (hk : k = i + j) (hv : v = f i j) : Prod3J f o (out.set k (out.getD k 0 + v)) i (j + 1) := by
 subst hk hv
 exact ⟨by rw [inG, ← h.h], by omega⟩
theorem Prod3J.fin {f : Nat → Nat → Rat} {o out : List Rat} {i j : Nat} (h0 : Prod3 f o i) (hi : i < 3) (h : Prod3J f o out i j) (hj : ¬ j < 3) : Prod3 f out (i + 1) := by
 have := h.hj
 refine ⟨?_, by omega⟩
 rw [outG, ← h0.h, h.h, show j = 3 by omega]
theorem Prod3.fin {f : Nat → Nat → Rat} {out : List Rat} {i : Nat} (h : Prod3 f out i) (hi : ¬ i < 3) : out = outG f (List.replicate 5 0) 3 3 := by
 have := h.hi
 rw [h.h, show i = 3 by omega]
theorem Prod3.bnd {f : Nat → Nat → Rat} {o out : List Rat} {i j k m M : Nat} {v : Rat} (h0 : Prod3 f o i) (h : Prod3J f o out i j) (hj : j < 3) (hv : v = f i j) (hf : ∀ i j, Bnd .rat (.n m) (f i j)) (hM : 12 * (m + 1) ≤ M) : Bnd .rat (.n M) (out.getD k 0 + v) := by
 have hi := h0.hi
 have h1 := Fj (n := 3) (IP 5 0) hf i
 rw [← h0.h] at h1
 have h2 := Lf (i := i) h1 (hf i) j
 rw [← h.h] at h2
 subst hv
 refine qg (zx (v8 h2 k) (hf i j)) ?_
 have : i * (3 * (m + 1)) ≤ 3 * (3 * (m + 1)) := Nat.mul_le_mul_right _ hi
 have : j * (m + 1) ≤ 2 * (m + 1) := Nat.mul_le_mul_right _ (by omega)
 omega
structure Div5 (c : Nat → Rat) (o out : List Rat) (k : Nat) : Prop where
 h : out = divG c o k
 hk : k ≤ 5
theorem Div5.start (c : Nat → Rat) (o : List Rat) : Div5 c o o 0 := ⟨rfl, by omega⟩
theorem Div5.len {c : Nat → Rat} {o out : List Rat} {k : Nat} (h : Div5 c o out k) : out.length = o.length := by rw [h.h, E1]
theorem Div5.step {c : Nat → Rat} {o out : List Rat} {k : Nat} (h : Div5 c o out k) (hk : k < 5) {v : Rat} (hv : v = c k) : Div5 c o (out.set k (out.getD k 0 / v)) (k + 1) := by
 subst hv; exact ⟨by rw [divG, ← h.h], by omega⟩
theorem Div5.fin {c : Nat → Rat} {o out : List Rat} {k : Nat} (h : Div5 c o out k) (hk : ¬ k < 5) : out = divG c o 5 := by
 have := h.hk
 rw [h.h, show k = 5 by omega]
theorem Div5.bnd {c : Nat → Rat} {o out : List Rat} {k m K M : Nat} {v : Rat} (h : Div5 c o out k) (hv : v = c k) (ho : ∀ u ∈ o, Bnd .rat (.n m) u) (hc : ∀ k, Bnd .rat (.n K) (c k)) (hM : m + K ≤ M) : Bnd .rat (.n M) (out.getD k 0 / v) := by
 subst hv
 rw [h.h, (HX ho hc k).2 k (Nat.le_refl _)]
 exact qg (A2 (v8 ho k) (hc k)) hM
structure Ch (n : Int) (c : Rat) (i : Nat) : Prop where
 h : c = Di n i
theorem Ch.start (n : Int) : Ch n ((1 : Int) : Rat) 0 := ⟨rfl⟩
theorem Ch.step {n : Int} {c : Rat} {i : Nat} (h : Ch n c i) : Ch n (c * (((n - (i : Int) : Int) : Rat) / (((i + 1 : Nat) : Int) : Rat))) (i + 1) := ⟨by rw [Di, ← h.h]⟩
theorem Ch.bnd {n : Int} {c : Rat} {i : Nat} (h : Ch n c i) (hn : n.natAbs ≤ 64) (hi : i < 64) : Bnd .rat (.n 520) (c * (((n - (i : Int) : Int) : Rat) / (((i + 1 : Nat) : Int) : Rat))) := by
 have := GC hn (k := i + 1) (by omega)
 rw [(h.step).h]; exact qg this (by omega)
def Cf : List Int → Nat → List Int
 | r, 0 => r
 | r, z + 1 => Cf (r.set (z + 1) (r.getD (z + 1) 0 + r.getD z 0)) z
def pas : Nat → List Int
 | 0 => [1]
 | i + 1 => Cf (pas i ++ [1]) i
def jg (l : List Int) : List Rat := l.map fun x : Int => (x : Rat)
theorem IY {l : List Int} {i k : Nat} {v : Int} (h : i < l.length) : (l.set i v).getD k 0 = if k = i then v else l.getD k 0 := by
 by_cases e : k = i
 ·subst e; simp [List.getD_eq_getElem?_getD, h]
 ·rw [if_neg e, List.getD_eq_getElem?_getD, List.getElem?_set_ne (by omega), ← List.getD_eq_getElem?_getD]
structure PasZ (i : Nat) (z : Int) (row : List Int) : Prop where
 h : Cf row z.toNat = pas (i + 1)
 hl : row.length = i + 2
 hz : z ≤ i
 hb : ∀ k : Nat, (k : Int) ≤ z → (row.getD k 0).natAbs ≤ 2 ^ i
 hc : ∀ k : Nat, (row.getD k 0).natAbs ≤ 2 ^ (i + 1)
structure PasI (i : Nat) (row : List Int) : Prop where
 h : row = pas i
 hl : row.length = i + 1
 hb : ∀ k : Nat, (row.getD k 0).natAbs ≤ 2 ^ i
theorem PasI.start : PasI 0 [1] := ⟨rfl, rfl, fun k => by
 match k with
 | 0 => decide
 | k + 1 => simp⟩
theorem PasI.app {i : Nat} {row : List Int} (h : PasI i row) {z : Int} (hz : z = i) : PasZ i z (row ++ [1]) := by
 subst hz
 have hl := h.hl
 have hp : 1 ≤ 2 ^ i := Nat.one_le_two_pow
 have key : ∀ k : Nat, ((row ++ [1]).getD k 0).natAbs ≤ 2 ^ i := fun k => by
  rcases Nat.lt_trichotomy k row.length with e | e | e
  ·have := h.hb k
   rwa [List.getD_eq_getElem?_getD, List.getElem?_append_left e, ← List.getD_eq_getElem?_getD]
  ·subst e; simpa [List.getD_eq_getElem?_getD] using hp
  ·rw [List.getD_eq_getElem?_getD, List.getElem?_eq_none (by simp; omega)]; simp
 refine ⟨?_, by simp [hl], by omega, fun k _ => key k, fun k => by rw [Nat.pow_succ]; have := key k; omega⟩
 rw [show ((i : Int)).toNat = i by omega, pas, h.h]
theorem PasZ.step {i : Nat} {z : Int} {row : List Int} (h : PasZ i z row) (hz : 0 < z) {k j : Nat} (hk : k = z.toNat) (hj : j = k - 1) : PasZ i (z - 1) (row.set k (row.getD k 0 + row.getD j 0)) ∧ (row.getD k 0 + row.getD j 0).natAbs ≤ 2 ^ (i + 1) := by
 subst hj
 have hl := h.hl
 have hz1 := h.hz
 have b1 := h.hb k (by omega)
 have b2 := h.hb (k - 1) (by omega)
 have b3 : (row.getD k 0 + row.getD (k - 1) 0).natAbs ≤ 2 ^ (i + 1) := by rw [Nat.pow_succ]; omega
 refine ⟨⟨?_, by simp [hl], by omega, fun q hq => ?_, fun q => ?_⟩, b3⟩
 ·have := h.h
  rw [← hk, show k = (k - 1) + 1 by omega, Cf] at this
  rw [← this, show (z - 1).toNat = k - 1 by omega, show k - 1 + 1 = k by omega]
 ·rw [IY (by omega), if_neg (by omega)]; exact h.hb q (by omega)
 ·rw [IY (by omega)]; split
  ·exact b3
  ·exact h.hc q
theorem PasZ.fin {i : Nat} {z : Int} {row : List Int} (h : PasZ i z row) (hz : ¬ 0 < z) : PasI (i + 1) row := by
 have := h.h
 rw [show z.toNat = 0 by omega, Cf] at this
 exact ⟨this, h.hl, h.hc⟩
theorem pasI : ∀ i, PasI i (pas i)
 | 0 => PasI.start
 | i + 1 => by
  have h0 := (pasI i).app (z := i) rfl
  have key : ∀ (m : Nat) (row : List Int), PasZ i m row → PasI (i + 1) (Cf row m) := by
   intro m
   induction m with
   | zero => intro row h; exact h.fin (by omega)
   | succ m ih =>
    intro row h
    rw [Cf]
    have := (h.step (by omega) (k := m + 1) (j := m) (by omega) (by omega)).1
    rw [show ((m + 1 : Nat) : Int) - 1 = (m : Int) by omega] at this
    exact ih _ this
  exact key i _ h0
theorem Mr {l : List Int} {i : Nat} (h : i < l.length) : ((l.getD i 0 : Int) : Rat) = (jg l).getD i 0 := by
 rw [j1 h, j1 (by simpa [jg] using h)]; simp [jg]
theorem zi (l : List Int) : (jg l).length = l.length := by simp [jg]
theorem q0q {n : Nat} (hn : n ≤ 40) : Bnd (.sl .rat) (.s 64 (.n 41)) (jg (pas n)) := by
 have h := pasI n
 refine ⟨by rw [zi, h.hl]; show n + 1 ≤ 64; omega, fun v hv => ?_⟩
 obtain ⟨x, hx, rfl⟩ := List.mem_map.1 hv
 obtain ⟨k, hk, rfl⟩ := List.getElem_of_mem hx
 have h1 := h.hb k
 rw [j1 hk] at h1
 have h2 := Nat.pow_le_pow_right (show 0 < 2 by omega) hn
 have := z5 (v := (pas n)[k]) (b := 2 ^ 40) (by omega)
 have e : Nat.log2 (2 ^ 40) + 1 = 41 := by decide +kernel
 rwa [e] at this
theorem pas2 : ∀ i, i < 3 → (jg (pas 2)).getD i 0 = c2 i
 | 0, _ => by decide +kernel
 | 1, _ => by decide +kernel
 | 2, _ => by decide +kernel
theorem pas4 : ∀ i, i < 5 → (jg (pas 4)).getD i 0 = c4 i
 | 0, _ => by decide +kernel
 | 1, _ => by decide +kernel
 | 2, _ => by decide +kernel
 | 3, _ => by decide +kernel
 | 4, _ => by decide +kernel
theorem Xu {p q : List Rat} {i j : Nat} (hi : i < 3) (hj : j < 3) : (jg (pas 2)).getD i 0 * p.getD i 0 * ((jg (pas 2)).getD j 0 * q.getD j 0) = mulT p q i j := by
 rw [pas2 i hi, pas2 j hj]; rfl
abbrev Pole : Type := V3 × Rat
abbrev j3 : Ty := .pr tV3 .rat
abbrev Four : Type := Rat × Rat × Rat × Rat
abbrev Hw : Ty := .pr .rat (.pr .rat (.pr .rat .rat))
abbrev He (m : Nat) : Bd := .p (.n m) (.p (.n m) (.p (.n m) (.n m)))
abbrev qN : Type := Int × List Rat × List Pole
abbrev qQ : Ty := .pr (.int .i64) (.pr (.sl .rat) (.sl j3))
abbrev Ax : Type := List Rat × List Rat × List Rat × List Rat
abbrev Fv : Ty := .pr (.sl .rat) (.pr (.sl .rat) (.pr (.sl .rat) (.sl .rat)))
abbrev EG (k m : Nat) : Bd := .p (.s k (.n m)) (.p (.s k (.n m)) (.p (.s k (.n m)) (.s k (.n m))))
def qf (p : Pole) : Four := (p.2 * p.1.1, p.2 * p.1.2.1, p.2 * p.1.2.2, p.2)
theorem Bnd.pole {b : Bd} {x : Pole} (h : Bnd j3 b x) : (Bnd .rat (.n b.mx) x.1.1 ∧ Bnd .rat (.n b.mx) x.1.2.1 ∧ Bnd .rat (.n b.mx) x.1.2.2) ∧ Bnd .rat (.n b.mx) x.2 := by
 have h1 := h.pr
 have h2 := h1.1.v3
 have := b.l_mx; have := b.r_mx
 exact ⟨⟨qg h2.1 (by omega), qg h2.2.1 (by omega), qg h2.2.2 (by omega)⟩, vi h1.2 (Nat.le_trans (Bd.nb_mx _) (by omega))⟩
theorem FY {b : Bd} {p : Pole} (h : Bnd j3 b p) : Bnd Hw (He (2 * b.mx)) (qf p) := by
 have h := h.pole
 exact ⟨qg (j6 h.2 h.1.1) (by omega), qg (j6 h.2 h.1.2.1) (by omega), qg (j6 h.2 h.1.2.2) (by omega), qg h.2 (by omega)⟩
def zM (l : List Pole) : Ax := (l.map fun p => (qf p).1, l.map fun p => (qf p).2.1, l.map fun p => (qf p).2.2.1, l.map fun p => (qf p).2.2.2)
theorem map3 {α : Type} {l : List α} (d : α) (h : l.length = 3) (f : α → Rat) : (([f (l.getD 0 d)] ++ [f (l.getD 1 d)]) ++ [f (l.getD 2 d)]) = l.map f := by
 match l, h with
 | [a, b, c], _ => rfl
theorem Bnd.slm' {t : Ty} {b : Bd} {l : List t.den} (h : Bnd (.sl t) b l) : ∀ v ∈ l, Bnd t b.e v := h.sl.2
theorem Bd.e_mx (b : Bd) : b.e.mx ≤ b.mx := by cases b <;> simp [Bd.e, Bd.mx]
theorem F8 {l : List Pole} {b : Bd} {m : Nat} (h : ∀ v ∈ l, Bnd j3 b v) (hl : l.length = 3) (f : Pole → Rat) (hf : ∀ p, Bnd j3 b p → Bnd .rat (.n m) (f p)) : Bnd (.sl .rat) (.s 3 (.n m)) (l.map f) := by
 refine ⟨by simp [hl], fun v hv => ?_⟩
 obtain ⟨p, hp, rfl⟩ := List.mem_map.1 hv
 exact hf p (h p hp)
theorem Kj {b : Bd} {c : qN} (h : Bnd qQ b c) (hl : c.2.2.length = 3) : Bnd Fv (EG 3 (2 * b.mx)) (zM c.2.2) := by
 have h1 := h.pr.2.pr.2.sl.2
 have := b.r_mx; have := b.r.r_mx; have := b.r.r.e_mx
 have key : ∀ p, Bnd j3 b.r.r.e p → Bnd Hw (He (2 * b.mx)) (qf p) := fun p hp => by
  have h := FY hp
  exact ⟨qg h.1 (by omega), qg h.2.1 (by omega), qg h.2.2.1 (by omega), qg h.2.2.2 (by omega)⟩
 exact ⟨F8 h1 hl _ fun p hp => (key p hp).1, F8 h1 hl _ fun p hp => (key p hp).2.1, F8 h1 hl _ fun p hp => (key p hp).2.2.1, F8 h1 hl _ fun p hp => (key p hp).2.2.2⟩
def AH (n : Nat) : Nat → Nat → Nat
 | 0, s => s
 | k + 1, s => if (s + 2 ^ k) * (s + 2 ^ k) ≤ n then AH n k (s + 2 ^ k) else AH n k s
def isq (n : Nat) : Nat := AH n (bl n) 0
theorem C4 {n : Nat} : ∀ {k s : Nat}, s * s ≤ n → n < (s + 2 ^ k) * (s + 2 ^ k) → AH n k s * AH n k s ≤ n ∧ n < (AH n k s + 1) * (AH n k s + 1)
 | 0, s, h1, h2 => ⟨h1, h2⟩
 | k + 1, s, h1, h2 => by
  rw [AH]
  split
  ·rename_i h
   refine C4 h ?_
   rw [show s + 2 ^ k + 2 ^ k = s + 2 ^ (k + 1) by rw [Nat.pow_succ]; omega]; exact h2
  ·rename_i h
   exact C4 h1 (by omega)
theorem Ap (n : Nat) : isq n * isq n ≤ n ∧ n < (isq n + 1) * (isq n + 1) := by
 refine C4 (by omega) ?_
 have h := BO n
 have hp : 1 ≤ 2 ^ bl n := Nat.one_le_two_pow
 have := Nat.mul_le_mul_left (2 ^ bl n) hp
 simp only [Nat.zero_add]; omega
theorem Hs {a b : Nat} (h : a * a < b * b) : a < b := by
 apply Nat.lt_of_not_le
 intro hl
 have := Nat.mul_le_mul hl hl
 omega
theorem Xa {n r : Nat} (h1 : r * r ≤ n) (h2 : n < (r + 1) * (r + 1)) : r = isq n := by
 obtain ⟨h3, h4⟩ := Ap n
 have := Hs (Nat.lt_of_le_of_lt h1 h4)
 have := Hs (Nat.lt_of_le_of_lt h3 h2)
 omega
theorem X9 {n x : Nat} (h : n < (x + 1) * (x + 1)) : isq n ≤ x := by
 have := Hs (Nat.lt_of_le_of_lt (Ap n).1 h); omega
theorem PU : isq 0 = 0 := rfl
theorem E4 (n : Nat) : isq n ≤ n := by
 have h := (Ap n).1
 rcases Nat.eq_zero_or_pos (isq n) with e | e
 ·omega
 ·have := Nat.le_mul_of_pos_left (isq n) e; omega
structure Newt (n x : Nat) : Prop where
 hx : 0 < x
 hs : isq n ≤ x
theorem Newt.start {n : Nat} : Newt n (1 * 2 ^ ((bl n + 1) / 2)) := by
 refine ⟨by rw [Nat.one_mul]; exact Nat.pow_pos (by omega), X9 ?_⟩
 have h := BO n
 have h1 : 2 ^ bl n ≤ 2 ^ ((bl n + 1) / 2) * 2 ^ ((bl n + 1) / 2) := by rw [← Nat.pow_add]; exact Nat.pow_le_pow_right (by omega) (by omega)
 have h2 := Nat.mul_le_mul (Nat.le_add_right (1 * 2 ^ ((bl n + 1) / 2)) 1) (Nat.le_add_right (1 * 2 ^ ((bl n + 1) / 2)) 1)
 rw [Nat.one_mul] at *
 omega
theorem Zj {s x : Nat} (h : x ≤ 2 * s) : (2 * s - x) * x ≤ s * s := by
 obtain ⟨d, hd⟩ : ∃ d : Int, (x : Int) = s + d := ⟨x - s, by omega⟩
 have e : ((2 * s - x : Nat) : Int) = s - d := by omega
 have h1 : (((2 * s - x) * x : Nat) : Int) = (s - d) * (s + d) := by rw [Int.natCast_mul, e, hd]
 have h2 : ((s * s : Nat) : Int) = s * s := by simp
 have h3 : (s - d) * (s + d) = s * s - d * d := by rw [Int.sub_mul, Int.mul_add, Int.mul_add, Int.mul_comm d s]; omega
 have h4 : 0 ≤ d * d := by
  rcases Int.le_total 0 d with hd | hd
  ·exact Int.mul_nonneg hd hd
  ·exact Int.mul_nonneg_of_nonpos_of_nonpos hd hd
 omega
theorem Newt.step {n x : Nat} (h : Newt n x) (hn : 0 < n) : Newt n ((x + n / x) / 2) := by
 have hs := (Ap n)
 have h1 : 1 ≤ isq n := by
  apply Nat.succ_le_of_lt
  apply Nat.pos_of_ne_zero
  intro e; rw [e] at hs; omega
 have key : isq n ≤ (x + n / x) / 2 := by
  rw [Nat.le_div_iff_mul_le (by omega)]
  rcases Nat.lt_or_ge (2 * isq n) x with e | e
  ·generalize n / x = g; omega
  ·have := Zj e
   have h2 : 2 * isq n - x ≤ n / x := by rw [Nat.le_div_iff_mul_le h.hx]; omega
   generalize n / x = g at *
   omega
 exact ⟨by omega, key⟩
theorem Newt.fin {n x : Nat} (h : Newt n x) (hc : x ≤ (x + n / x) / 2) : x = isq n := by
 have h1 : x ≤ n / x := by omega
 rw [Nat.le_div_iff_mul_le h.hx] at h1
 have h2 := h.hs
 have := Hs (Nat.lt_of_le_of_lt h1 (Ap n).2)
 omega
def sc (r : Rat) (k : Nat) : Nat := r.num.natAbs * 2 ^ k * 2 ^ k / r.den
def scm (r : Rat) (k : Nat) : Bool := decide (0 < bl (r.num.natAbs * 2 ^ k * 2 ^ k % r.den))
theorem sc_b {r : Rat} {b : Bd} {k : Nat} (h : Bnd .rat b r) (hk : k ≤ 64) : lt2 (sc r k) (b.nb + 128) :=
 zK (q7 (show b.nb + k + k ≤ b.nb + 128 by omega) (Aq (Aq h.rat.1 (Nat.le_refl k)) (Nat.le_refl k))) (Nat.div_le_self _ _)
def qX (r : Rat) (k : Nat) : Rat := if r.num < 0 then 0 else sgQ false (isq (sc r k)) (2 ^ k)
theorem Au {r : Rat} {b : Bd} {k : Nat} (h : Bnd .rat b r) (hk : k ≤ 64) : Bnd .rat (.n (b.nb + 130)) (qX r k) := by
 unfold qX; split
 ·exact qG _
 ·refine qt (q7 (by omega) (zK (sc_b h hk) (E4 _))) ?_ (Nat.pow_pos (by omega))
  exact Nat.pow_le_pow_right (by omega) (by omega)
def hiN (r : Rat) (k : Nat) : Nat := if scm r k = true ∨ isq (sc r k) * isq (sc r k) < sc r k then isq (sc r k) + 1 else isq (sc r k)
def jE (r : Rat) (k : Nat) : Rat := if r.num < 0 then 0 else sgQ false (hiN r k) (2 ^ k)
theorem ZS {r : Rat} {b : Bd} {k : Nat} (h : Bnd .rat b r) (hk : k ≤ 64) : lt2 (hiN r k) (b.nb + 129) := by
 have h1 : hiN r k ≤ sc r k + 1 := by unfold hiN; have := E4 (sc r k); split <;> omega
 have h2 := sc_b h hk
 unfold lt2 at *
 rw [show b.nb + 129 = (b.nb + 128) + 1 by omega, Nat.pow_succ]; omega
theorem IT {r : Rat} {b : Bd} {k : Nat} (h : Bnd .rat b r) (hk : k ≤ 64) : Bnd .rat (.n (b.nb + 130)) (jE r k) := by
 unfold jE; split
 ·exact qG _
 ·refine qt (q7 (by omega) (ZS h hk)) ?_ (Nat.pow_pos (by omega))
  exact Nat.pow_le_pow_right (by omega) (by omega)
theorem Ny (r : Rat) : minQ r r = r := by unfold minQ; split <;> rfl
theorem Nx (r : Rat) : maxQ r r = r := by unfold maxQ; split <;> rfl
theorem q0i (x : Nat) (b c : Bd) (r : WC) : (WV.tup [.one (.dt (.sl (.nat .u32)) b (limbs x)), r]).exp = (WV.tup [.one (.dt .mag c x), r]).exp := by
 have h := magE x b c
 have h2 : (WC.one (.dt (.sl (.nat .u32)) b (limbs x))).exp = (WC.one (.dt .mag c x)).exp := by injection h
 show AV.tup [(WC.one (.dt (.sl (.nat .u32)) b (limbs x))).exp, r.exp] = AV.tup [(WC.one (.dt .mag c x)).exp, r.exp]
 rw [h2]
theorem LO {l : List Nat} (hu : ∀ u ∈ l, u < 4294967296) : l.take (limbs (valL l)).length = limbs (valL l) := by
 have h1 := Bp hu
 have h2 := Bs (G5 (n := (limbs (valL l)).length) hu)
 have h3 := Bs (qH (valL l))
 rw [List.length_take, Nat.min_eq_left h1] at h2
 rw [qn] at h3
 have h4 := vU l (limbs (valL l)).length
 rw [Nat.min_eq_left h1] at h4
 have h5 := jq (limbs (valL l)) (qH _)
 rw [qn] at h5
 have h6 : valL (l.drop (limbs (valL l)).length) = 0 := by
  apply Nat.eq_zero_of_not_pos
  intro hp
  have := Nat.mul_le_mul_left (4294967296 ^ (limbs (valL l)).length) hp
  omega
 rw [h6, Nat.mul_zero, Nat.add_zero] at h4
 rw [h2, ← h4]; exact h3.symm
theorem KB (x m : Nat) : ∀ u ∈ List.replicate (m / 32) 0 ++ padL (x * 2 ^ (m % 32)) ((limbs x).length + 1), u < 4294967296 := by
 intro u hu
 rcases List.mem_append.1 hu with hu | hu
 ·exact rep_lt _ u hu
 ·exact Br _ _ u hu
theorem R7 (x m : Nat) : valL (List.replicate (m / 32) 0 ++ padL (x * 2 ^ (m % 32)) ((limbs x).length + 1)) = x * 2 ^ m := by
 rw [z9, Aw, AN x (m % 32) (by omega), List.length_replicate, Nat.zero_add, Nat.mul_left_comm, CV]
theorem R4 (x m : Nat) : (List.replicate (m / 32) 0 ++ padL (x * 2 ^ (m % 32)) ((limbs x).length + 1)).take (limbs (valL (List.replicate (m / 32) 0 ++ padL (x * 2 ^ (m % 32)) ((limbs x).length + 1)))).length = limbs (x * 2 ^ m) := by
 rw [LO (KB x m), R7]
theorem R5 {x m a c : Nat} (h : lt2 x a) (hm : m ≤ c) : (limbs (x * 2 ^ m)).length ≤ a + c / 32 + 8 := by
 have := qc (Nat.le_of_lt (Aq h hm))
 omega
theorem II (b : Bd) : b.r.l.nb ≤ b.mx ∧ b.r.r.nb ≤ b.mx := by
 have h1 := b.r.l.nb_mx; have h2 := b.r.l_mx; have h3 := b.r_mx; have h4 := b.r.r.nb_mx; have h5 := b.r.r_mx
 exact ⟨by omega, by omega⟩
theorem Du {b : Nat} (h : 1 ≤ b) : lt2 1 b := q7 h (wt (x := 1) (b := 1) rfl)
theorem Bz {r : Rat} : sgnQ r < 0 ↔ r.num < 0 := by
 unfold sgnQ; split
 ·omega
 ·split <;> omega
theorem Yo {r : Rat} : 0 < sgnQ r ↔ 0 < r.num := by
 unfold sgnQ; split
 ·omega
 ·split <;> omega
theorem V2 {r : Rat} {k : Nat} (h : r.num = 0) : sc r k = 0 := by unfold sc; rw [h]; simp
theorem Cj {r : Rat} {k : Nat} (h : ¬ r.num < 0) : sgQ false (isq (sc r k)) (1 * 2 ^ k) = qX r k := by rw [Nat.one_mul, qX, if_neg h]
theorem Ef {r : Rat} {k : Nat} (h : ¬ r.num < 0) (h2 : ¬ 0 < sgnQ r) : sgQ false 0 (1 * 2 ^ k) = qX r k := by
 have h3 := mt Yo.2 h2
 rw [← Cj h, V2 (by omega), PU]
theorem Ci {r : Rat} {k : Nat} (h : ¬ r.num < 0) (hc : scm r k = true ∨ cmpN (isq (sc r k) * isq (sc r k)) (sc r k) < 0) : sgQ false (isq (sc r k) + 1) (1 * 2 ^ k) = jE r k := by
 rw [Nat.one_mul, jE, if_neg h, hiN, if_pos]
 exact hc.imp id j8.1
theorem IS {r : Rat} {k : Nat} (h : ¬ r.num < 0) (h1 : ¬ scm r k = true) (h2 : ¬ cmpN (isq (sc r k) * isq (sc r k)) (sc r k) < 0) : sgQ false (isq (sc r k)) (1 * 2 ^ k) = jE r k := by
 rw [Nat.one_mul, jE, if_neg h, hiN, if_neg]
 rintro (e | e)
 ·exact h1 e
 ·exact h2 (j8.2 e)
theorem Xp {r : Rat} {k : Nat} (h : r.num < 0) : (0 : Rat) = qX r k := (if_pos h).symm
theorem X6 {r : Rat} {k : Nat} (h : r.num < 0) : (0 : Rat) = jE r k := (if_pos h).symm
theorem UO {s : Rat × Rat} {b : Bd} {k : Nat} (h : Bnd (.pr .rat .rat) b s) (hk : k ≤ 64) : Bnd (.pr .rat .rat) (.p (.n (b.mx + 130)) (.n (b.mx + 130))) (qX s.2 k, jE s.2 k) := by
 have h1 := h.pr.2
 have := b.r.nb_mx; have := b.r_mx
 exact ⟨qg (Au h1 hk) (by omega), qg (IT h1 hk) (by omega)⟩
theorem SV {x y : Rat} : cmpQ x y ≤ 0 ↔ x ≤ y := by
 rw [Ba, Rat.le_iff]; split
 ·omega
 ·split <;> omega
theorem SU {x y : Rat} : 0 ≤ cmpQ x y ↔ y ≤ x := by
 rw [Ba, Rat.le_iff]; split
 ·omega
 ·split <;> omega
theorem q0t {n D : Nat} {r : Rat} (hD : 0 < D) (h0 : ¬ r.num < 0) : sgQ false n D ≤ r ↔ n ≤ r.num.natAbs * D / r.den := by
 obtain ⟨e1, e2⟩ := qP (neg := false) (n := n) hD
 have hg : 0 < Nat.gcd n D := Nat.gcd_pos_of_pos_right _ hD
 have g1 : Nat.gcd n D * (n / Nat.gcd n D) = n := Nat.mul_div_cancel' (Nat.gcd_dvd_left _ _)
 have g2 : Nat.gcd n D * (D / Nat.gcd n D) = D := Nat.mul_div_cancel' (Nat.gcd_dvd_right _ _)
 rw [Rat.le_iff, e1, e2, Nat.le_div_iff_mul_le (Nat.pos_of_ne_zero r.den_nz)]
 have e3 : sgI false n / ((Nat.gcd n D : Nat) : Int) = ((n / Nat.gcd n D : Nat) : Int) := by simp [sgI]
 have e4 : r.num = ((r.num.natAbs : Nat) : Int) := by omega
 rw [e3, e4, Int.natAbs_natCast]
 generalize r.num.natAbs = R at *
 generalize n / Nat.gcd n D = a at *
 generalize D / Nat.gcd n D = c at *
 generalize Nat.gcd n D = g at *
 subst g1 g2
 rw [← Int.natCast_mul, ← Int.natCast_mul, Int.ofNat_le, Nat.mul_assoc, Nat.mul_left_comm R g c]
 exact (Nat.mul_le_mul_left_iff hg).symm
def dq (K a : Nat) : Rat := sgQ false a (2 ^ K)
theorem w8 (K a : Nat) : dq K a = (((a : Nat) : Int) : Rat) / ((2 ^ K : Nat) : Rat) := by unfold dq sgQ sgI; rw [Rat.mkRat_eq_div]; rfl
theorem D9 (K : Nat) : ((2 ^ K : Nat) : Rat) ≠ 0 := by
 intro h
 have := Nat.pow_pos (n := K) (show 0 < 2 by omega)
 have h2 : ((2 ^ K : Nat) : Rat) = ((0 : Nat) : Rat) := h
 rw [Rat.natCast_inj] at h2
 omega
theorem I1 (K a b : Nat) : dq K a + dq K b = dq K (a + b) := by
 have h := D9 K
 rw [w8, w8, w8, Int.natCast_add, Rat.intCast_add]
 grind
theorem JZ (K a : Nat) : dq K (2 * a) * (((1 : Int) : Rat) / ((2 : Int) : Rat)) = dq K a := by
 have h := D9 K
 rw [w8, w8, Int.natCast_mul, Rat.intCast_mul]
 have h1 : ((1 : Int) : Rat) = 1 := rfl
 have h2 : ((2 : Int) : Rat) = 2 := rfl
 have h3 : ((((2 : Nat) : Int)) : Rat) = 2 := rfl
 rw [h1, h2, h3]; grind
theorem Dk (K a : Nat) : dq (K + 1) (2 * a) = dq K a := by unfold dq; rw [Nat.pow_succ, Nat.mul_comm 2 a, AR _ _ _ _ (by omega)]
theorem WN (K : Nat) : ((1 : Int) : Rat) = dq K (2 ^ K) := by
 have h := D9 K
 rw [w8]
 have h1 : ((1 : Int) : Rat) = 1 := rfl
 have h2 : (((2 ^ K : Nat) : Int) : Rat) = ((2 ^ K : Nat) : Rat) := rfl
 rw [h1, h2]; grind
theorem T9 (K : Nat) : (0 : Rat) = dq K 0 := (Av _ _).symm
theorem ZD (K a : Nat) : dq K a * dq K a = sgQ false (a * a) (2 ^ K * 2 ^ K) := Gi false false a a (2 ^ K) (2 ^ K)
theorem I2 {r : Rat} (h0 : ¬ r.num < 0) (K a : Nat) : cmpQ (dq K a * dq K a) r ≤ 0 ↔ a * a ≤ sc r K := by
 rw [SV, ZD, q0t (Nat.mul_pos (Nat.pow_pos (by omega)) (Nat.pow_pos (by omega))) h0, sc, Nat.mul_assoc]
theorem EP (K a : Nat) : (dq K a * ((2 ^ K : Nat) : Rat)).num.natAbs = a := by
 have h := D9 K
 have e : dq K a * ((2 ^ K : Nat) : Rat) = (((a : Nat) : Int) : Rat) := by rw [w8]; grind
 rw [e, wr]; rfl
theorem Sc (K a b : Nat) : 0 ≤ cmpQ (dq K a) (dq K b) ↔ b ≤ a := by
 have h := D9 K
 have hp : (0 : Rat) < ((2 ^ K : Nat) : Rat) := by
  have := Nat.pow_pos (n := K) (show 0 < 2 by omega)
  have h2 : ((0 : Nat) : Rat) < ((2 ^ K : Nat) : Rat) := Rat.natCast_lt_natCast.2 this
  exact h2
 rw [SU, ← Rat.not_lt]
 have e : dq K b * ((2 ^ K : Nat) : Rat) = (((b : Nat) : Int) : Rat) := by rw [w8]; grind
 rw [w8 K a, Rat.div_lt_iff hp, e, Rat.intCast_lt_intCast]
 omega
theorem dq_b {K a m : Nat} (h : lt2 a m) (hK : K ≤ m) : Bnd .rat (.n m) (dq K a) := qt h (Nat.pow_le_pow_right (by omega) hK) (Nat.pow_pos (by omega))
structure St1 (r : Rat) (K : Nat) (s : Rat) : Prop where
 h : ∃ i, s = dq K (2 ^ (K + i)) ∧ 2 ^ (K + i) ≤ 2 * sc r K + 2 ^ K
def numA (K : Nat) (s : Rat) : Nat := (s * ((2 ^ K : Nat) : Rat)).num.natAbs
def mu1 (r : Rat) (K : Nat) (s : Rat) : Nat := 2 * sc r K + 2 ^ K + 1 - numA K s
theorem St1.start (r : Rat) (K : Nat) : St1 r K ((1 : Int) : Rat) := ⟨0, WN K, by rw [Nat.add_zero]; omega⟩
theorem St1.step {r : Rat} {K : Nat} {s : Rat} (h : St1 r K s) (h0 : ¬ r.num < 0) (hc : cmpQ (s * s) r ≤ 0) : St1 r K (s + s) ∧ mu1 r K (s + s) < mu1 r K s := by
 obtain ⟨i, rfl, hi⟩ := h.h
 rw [I2 h0] at hc
 have hp := Nat.pow_pos (n := K + i) (show 0 < 2 by omega)
 have hq := Nat.le_mul_of_pos_left (2 ^ (K + i)) hp
 have hK := Nat.pow_pos (n := K) (show 0 < 2 by omega)
 have e : 2 ^ (K + i) + 2 ^ (K + i) = 2 ^ (K + (i + 1)) := by rw [← Nat.add_assoc, Nat.pow_succ]; omega
 refine ⟨⟨i + 1, by rw [I1, e], by omega⟩, ?_⟩
 rw [I1, mu1, mu1, numA, numA, EP, EP]; omega
theorem St1.bnd {r : Rat} {K : Nat} {s : Rat} (h : St1 r K s) {m : Nat} (hN : lt2 (sc r K) m) (hK : K ≤ m) : Bnd .rat (.n (m + 2)) s := by
 obtain ⟨i, rfl, hi⟩ := h.h
 refine dq_b ?_ (by omega)
 have h2 := Nat.pow_le_pow_right (show 0 < 2 by omega) hK
 unfold lt2 at *
 rw [show m + 2 = (m + 1) + 1 by omega, Nat.pow_succ, Nat.pow_succ]; omega
structure St2 (r : Rat) (K : Nat) (s l : Rat) : Prop where
 h : ∃ i a, s = dq K (2 ^ i) ∧ l = dq K a ∧ 2 ^ (i + 1) ∣ a ∧ a * a ≤ sc r K ∧ sc r K < (a + 2 ^ (i + 1)) * (a + 2 ^ (i + 1)) ∧ 2 ^ i ≤ 2 * sc r K + 2 ^ K
theorem St2.start {r : Rat} {K : Nat} {s : Rat} (h : St1 r K s) (h0 : ¬ r.num < 0) (hc : ¬ cmpQ (s * s) r ≤ 0) : St2 r K s 0 := by
 obtain ⟨i, rfl, hi⟩ := h.h
 rw [I2 h0] at hc
 refine ⟨K + i, 0, rfl, T9 K, Nat.dvd_zero _, by omega, ?_, hi⟩
 have := Nat.mul_le_mul (Nat.pow_le_pow_right (show 0 < 2 by omega) (Nat.le_add_right (K + i) 1)) (Nat.pow_le_pow_right (show 0 < 2 by omega) (Nat.le_add_right (K + i) 1))
 rw [Nat.zero_add]; omega
theorem St2.go {r : Rat} {j : Nat} {s l : Rat} (h : St2 r (j + 1) s l) (h0 : ¬ r.num < 0) (ht : 0 ≤ cmpQ s (dq j 1)) :
    (cmpQ ((l + s) * (l + s)) r ≤ 0 → St2 r (j + 1) (s * (((1 : Int) : Rat) / ((2 : Int) : Rat))) (l + s)) ∧ (¬ cmpQ ((l + s) * (l + s)) r ≤ 0 → St2 r (j + 1) (s * (((1 : Int) : Rat) / ((2 : Int) : Rat))) l) ∧
    numA (j + 1) (s * (((1 : Int) : Rat) / ((2 : Int) : Rat))) < numA (j + 1) s := by
  obtain ⟨i, a, rfl, rfl, hd, h1, h2, h3⟩ := h.h
  rw [← Dk j 1, Sc] at ht
  obtain ⟨i, rfl⟩ : ∃ q, i = q + 1 := ⟨i - 1, by
    rcases Nat.eq_zero_or_pos i with e | e
    · subst e; simp at ht
    · omega⟩
  have es : dq (j + 1) (2 ^ (i + 1)) * (((1 : Int) : Rat) / ((2 : Int) : Rat)) = dq (j + 1) (2 ^ i) := by rw [show 2 ^ (i + 1) = 2 * 2 ^ i by rw [Nat.pow_succ]; omega, JZ]
  have hp := Nat.pow_pos (n := i) (show 0 < 2 by omega)
  have e1 : 2 ^ (i + 1) = 2 * 2 ^ i := by rw [Nat.pow_succ]; omega
  have e2 : 2 ^ (i + 1 + 1) = 2 * 2 ^ (i + 1) := by rw [Nat.pow_succ]; omega
  rw [es, I1, I2 h0]
  have hd' : 2 ^ (i + 1) ∣ a := Nat.dvd_trans ⟨2, by rw [e2]; omega⟩ hd
  refine ⟨fun hc => ⟨i, a + 2 ^ (i + 1), rfl, rfl, Nat.dvd_add hd' (Nat.dvd_refl _), hc, ?_, by omega⟩, fun hc => ⟨i, a, rfl, rfl, hd', h1, by omega, by omega⟩, ?_⟩
  · rw [show a + 2 ^ (i + 1) + 2 ^ (i + 1) = a + 2 ^ (i + 1 + 1) by omega]; exact h2
  · rw [numA, numA, EP, EP]; omega
theorem Kw (r : Rat) (k m : Nat) : (4 * (m * m) ≤ sc r (k + 1) → m * m ≤ sc r k) ∧ (sc r (k + 1) < 4 * ((m + 1) * (m + 1)) → sc r k < (m + 1) * (m + 1)) := by
 have hd := Nat.pos_of_ne_zero r.den_nz
 have e : r.num.natAbs * 2 ^ (k + 1) * 2 ^ (k + 1) = 4 * (r.num.natAbs * 2 ^ k * 2 ^ k) := by rw [Nat.pow_succ]; generalize 2 ^ k = p; generalize r.num.natAbs = R; grind
 unfold sc
 rw [e]
 generalize r.num.natAbs * 2 ^ k * 2 ^ k = X
 refine ⟨fun h => ?_, fun h => ?_⟩
 ·rw [Nat.le_div_iff_mul_le hd] at h ⊢
  rw [Nat.mul_assoc] at h; omega
 ·rw [Nat.div_lt_iff_lt_mul hd] at h ⊢
  rw [Nat.mul_assoc] at h; omega
theorem St2.fin {r : Rat} {j : Nat} {s l : Rat} (h : St2 r (j + 1) s l) (h0 : ¬ r.num < 0) (ht : ¬ 0 ≤ cmpQ s (dq j 1)) : l = qX r j := by
 obtain ⟨i, a, rfl, rfl, hd, h1, h2, h3⟩ := h.h
 rw [← Dk j 1, Sc] at ht
 have hp := Nat.pow_pos (n := i) (show 0 < 2 by omega)
 have hi : i = 0 := by
  rcases Nat.eq_zero_or_pos i with e | e
  ·exact e
  ·have := Nat.pow_le_pow_right (show 0 < 2 by omega) (show 1 ≤ i by omega)
   omega
 subst hi
 obtain ⟨m, rfl⟩ := hd
 rw [show (2 : Nat) ^ (0 + 1) = 2 by rfl] at *
 have e1 : 2 * m * (2 * m) = 4 * (m * m) := by grind
 have e2 : (2 * m + 2) * (2 * m + 2) = 4 * ((m + 1) * (m + 1)) := by grind
 rw [e1] at h1
 rw [e2] at h2
 have := Xa ((Kw r j m).1 h1) ((Kw r j m).2 h2)
 rw [Dk, dq, this, qX, if_neg h0]
theorem St2.bnd {r : Rat} {K : Nat} {s l : Rat} (h : St2 r K s l) {m : Nat} (hN : lt2 (sc r K) m) (hK : K ≤ m) : Bnd .rat (.n (m + 2)) s ∧ Bnd .rat (.n (m + 2)) l := by
 obtain ⟨i, a, rfl, rfl, hd, h1, h2, h3⟩ := h.h
 have h5 := Nat.pow_le_pow_right (show 0 < 2 by omega) hK
 refine ⟨dq_b ?_ (by omega), dq_b ?_ (by omega)⟩
 ·unfold lt2 at *
  rw [show m + 2 = (m + 1) + 1 by omega, Nat.pow_succ, Nat.pow_succ]; omega
 ·have : a ≤ sc r K := by
   rcases Nat.eq_zero_or_pos a with e | e
   ·omega
   ·have := Nat.le_mul_of_pos_left a e; omega
  exact q7 (by omega) (zK hN this)
structure Two (m : Int) (z : Int) (v : Rat) : Prop where
 h : v = dq (z - m).toNat 1
 hm : m ≤ z
 hz : z ≤ 0
theorem Two.start {m : Int} (hm : m ≤ 0) : Two m m (((1 : Int) : Rat) / ((1 : Int) : Rat)) := by
 refine ⟨?_, Int.le_refl _, hm⟩
 rw [show (m - m).toNat = 0 by omega]
 decide +kernel
theorem Two.step {m z : Int} {v : Rat} (h : Two m z v) (hz : z < 0) : Two m (z + 1) (v * (((1 : Int) : Rat) / ((2 : Int) : Rat))) := by
 have h1 := h.hm
 refine ⟨?_, by omega, by omega⟩
 rw [h.h, show (z + 1 - m).toNat = (z - m).toNat + 1 by omega, ← JZ ((z - m).toNat + 1) 1, ← Dk (z - m).toNat 1]
theorem Two.bnd {m z : Int} {v : Rat} (h : Two m z v) (hm : -64 ≤ m) : Bnd .rat (.n 66) v := by
 have h1 := h.hz
 rw [h.h]; exact dq_b (Du (by omega)) (by omega)
theorem Two.fin {m z : Int} {v : Rat} (h : Two m z v) (hz : ¬ z < 0) : v = dq (-m).toNat 1 := by
 have h1 := h.hz
 rw [h.h, show z - m = -m by omega]
theorem St2.fin' {r : Rat} {j : Nat} {s l w : Rat} (h : St2 r (j + 1) s l) (h0 : ¬ r.num < 0) (hw : w = dq j 1) (ht : ¬ 0 ≤ cmpQ s w) : l = qX r j := by subst hw; exact h.fin h0 ht
section
def xL (f : Ax) (m : Rat) (p : List Rat) : List Rat := subL p (j0 m f.2.2.2)
def sumL (f : Ax) (m : V3) : List Rat := addL (addL (mulL (xL f m.1 f.1) (xL f m.1 f.1)) (mulL (xL f m.2.1 f.2.1) (xL f m.2.1 f.2.1))) (mulL (xL f m.2.2 f.2.2.1) (xL f m.2.2 f.2.2.1))
def wtL (f : Ax) : List Rat := mulL f.2.2.2 f.2.2.2
def qq (f : Ax) (m : V3) (i : Nat) : Rat := (sumL f m).getD i 0 / (wtL f).getD i 0
def O1 (f : Ax) (m : V3) : Rat × Rat :=
 (minQ (minQ (minQ (minQ (minQ (qq f m 0) (qq f m 0)) (qq f m 1)) (qq f m 2)) (qq f m 3)) (qq f m 4), maxQ (maxQ (maxQ (maxQ (maxQ (qq f m 0) (qq f m 0)) (qq f m 1)) (qq f m 2)) (qq f m 3)) (qq f m 4))
def Bt (c : qN) (m : V3) : Rat × Rat := O1 (zM c.2.2) m
abbrev qU (m : Nat) : Bd := .p (bV3 m) (.n m)
abbrev zI (m : Nat) : Bd := .p (.n 6) (.p (.s 6 (.n m)) (.s 3 (qU m)))
theorem q0u {l : List Rat} {k a c : Nat} (h : Bnd (.sl .rat) (.s k (.n a)) l) (hm : a ≤ c) : Bnd (.sl .rat) (.s k (.n c)) l := ⟨h.1, fun v hv => qg (h.2 v hv) hm⟩
theorem WQ {f : Ax} {k a : Nat} (h : Bnd Fv (EG k a) f) : Bnd (.sl .rat) (.s k (.n a)) f.1 ∧ Bnd (.sl .rat) (.s k (.n a)) f.2.1 ∧ Bnd (.sl .rat) (.s k (.n a)) f.2.2.1 ∧ Bnd (.sl .rat) (.s k (.n a)) f.2.2.2 := h
theorem M6 {w p : List Rat} {m : Rat} {a : Nat} (hp : Bnd (.sl .rat) (.s 3 (.n a)) p) (hw : Bnd (.sl .rat) (.s 3 (.n a)) w) (hm : Bnd .rat (.n 4000) m) : Bnd (.sl .rat) (.s 5 (.n (9 * (4 * a + 8007) + 3))) (mulL (subL p (j0 m w)) (subL p (j0 m w))) := by
 have h1 := J6 hp (IX hm hw)
 have h2 := Iq h1 h1
 refine q0u h2 ?_
 simp only [Bd.mx]; omega
theorem QL {f : Ax} {m : V3} (hf : Bnd Fv (EG 3 8000) f) (hm : Bnd tV3 (bV3 4000) m) : Bnd (.pr .rat .rat) (.p (.n 2000000) (.n 2000000)) (O1 f m) := by
 obtain ⟨f1, f2, f3, f4⟩ := WQ hf
 have s1 := M6 f1 f4 hm.1
 have s2 := M6 f2 f4 hm.2.1
 have s3 := M6 f3 f4 hm.2.2
 have h := EA (EA s1 s2) s3
 have hw := Iq f4 f4
 have key : ∀ i, Bnd .rat (.n 2000000) (qq f m i) := fun i => by
  refine qg (A2 (Bj h i) (Bj hw i)) ?_
  simp only [Bd.mx]; omega
 have mn : ∀ {x y : Rat}, Bnd .rat (.n 2000000) x → Bnd .rat (.n 2000000) y → Bnd .rat (.n 2000000) (minQ x y) := fun hx hy => by unfold minQ; split <;> assumption
 have mxx : ∀ {x y : Rat}, Bnd .rat (.n 2000000) x → Bnd .rat (.n 2000000) y → Bnd .rat (.n 2000000) (maxQ x y) := fun hx hy => by unfold maxQ; split <;> assumption
 exact ⟨mn (mn (mn (mn (mn (key 0) (key 0)) (key 1)) (key 2)) (key 3)) (key 4), mxx (mxx (mxx (mxx (mxx (key 0) (key 0)) (key 1)) (key 2)) (key 3)) (key 4)⟩
theorem IN {c : qN} {m : V3} (hc : Bnd qQ (zI 4000) c) (hl : c.2.2.length = 3) (hm : Bnd tV3 (bV3 4000) m) : Bnd (.pr .rat .rat) (.p (.n 2000000) (.n 2000000)) (Bt c m) := by
 refine QL ?_ hm
 have h := Kj hc hl
 have e : 2 * (zI 4000).mx = 8000 := by decide
 rwa [e] at h
theorem Qj {l : List Pole} (h : l.length = 3) : (zM l).1.length = 3 ∧ (zM l).2.1.length = 3 ∧ (zM l).2.2.1.length = 3 ∧ (zM l).2.2.2.length = 3 := by simp [zM, h]
theorem M1 {p w : List Rat} {m : Rat} (hp : p.length = 3) (hw : w.length = 3) : (subL p (j0 m w)).length = 3 := by rw [Cp (by rw [vR]; omega), hp]
abbrev ArcR : Type := qN × V3 × (Rat × Rat) × Int
def ze (e : Int) : ArcR := ((0, [], []), (0, 0, 0), (0, 0), e)
abbrev arcU (d e : V3) (k : Int) : Rat := qX (dotQ d d / dotQ e e) k.toNat
abbrev arcF (d e : V3) (k : Int) : V3 := jc (arcU d e k) e
abbrev BM (d e : V3) (k : Int) : Rat := dotQ d (arcF d e k)
abbrev arcW (d e : V3) (k : Int) : Rat := qX ((dotQ d d - BM d e k) / (dotQ d d + dotQ d d)) k.toNat
abbrev arcM (d e : V3) (k : Int) : Rat := dotQ d d / (dotQ d d + BM d e k)
abbrev B7 (p d e : V3) (k : Int) : V3 := addV p (jc (arcM d e k) (addV d (arcF d e k)))
abbrev EB (p d e : V3) (k : Int) : qN := (2, [0, 0, 0, ((1 : Int) : Rat), ((1 : Int) : Rat), ((1 : Int) : Rat)], [(addV p d, ((1 : Int) : Rat)), (p, arcW d e k), (addV p (arcF d e k), ((1 : Int) : Rat))])
def arcR (p d e : V3) (k : Int) : ArcR :=
 if k < 0 ∨ 64 < k then ze 1 else
 if zj d e = (0, 0, 0) then ze 9 else
 if sgnQ (arcU d e k) = 0 ∨ sgnQ (arcW d e k) = 0 then ze 6 else
 if quoC (dotQ d d + BM d e k) ≠ 0 then ze 7 else
 (EB p d e k, B7 p d e k, Bt (EB p d e k) (B7 p d e k), 0)
section
variable {p d e : V3} {k : Int}
theorem wZ (h : k < 0 ∨ 64 < k) : ze 1 = arcR p d e k := by unfold arcR; rw [if_pos h]
theorem EC (h : ¬ (k < 0 ∨ 64 < k)) (h2 : zj d e = (0, 0, 0)) : ze 9 = arcR p d e k := by unfold arcR; rw [if_neg h, if_pos h2]
theorem A1 (h : ¬ (k < 0 ∨ 64 < k)) (h2 : ¬ zj d e = (0, 0, 0)) (h3 : sgnQ (arcU d e k) = 0 ∨ sgnQ (arcW d e k) = 0) : ze 6 = arcR p d e k := by unfold arcR; rw [if_neg h, if_neg h2, if_pos h3]
theorem ED (h : ¬ (k < 0 ∨ 64 < k)) (h2 : ¬ zj d e = (0, 0, 0)) (h3 : ¬ (sgnQ (arcU d e k) = 0 ∨ sgnQ (arcW d e k) = 0)) (h4 : quoC (dotQ d d + BM d e k) ≠ 0) : ze 7 = arcR p d e k := by unfold arcR; rw [if_neg h, if_neg h2, if_neg h3, if_pos h4]
theorem EE (h : ¬ (k < 0 ∨ 64 < k)) (h2 : ¬ zj d e = (0, 0, 0)) (h3 : ¬ (sgnQ (arcU d e k) = 0 ∨ sgnQ (arcW d e k) = 0)) (h4 : ¬ quoC (dotQ d d + BM d e k) ≠ 0) :
    (EB p d e k, B7 p d e k, Bt (EB p d e k) (B7 p d e k), (0 : Int)) = arcR p d e k := by unfold arcR; rw [if_neg h, if_neg h2, if_neg h3, if_neg h4]
end
theorem Fi (m : Nat) (h : 1 ≤ m) : Bnd .rat (.n m) ((1 : Int) : Rat) := qg (a := 1) ⟨by unfold lt2; decide, by unfold le2; decide⟩ h
theorem AW {x : V3} {a c : Nat} (h : Bnd tV3 (bV3 a) x) (hm : a ≤ c) : Bnd tV3 (bV3 c) x := ⟨qg h.1 hm, qg h.2.1 hm, qg h.2.2 hm⟩
structure ArcB (p d e : V3) (k : Int) : Prop where
 w : Bnd .rat (.n 4000) (arcW d e k)
 f : Bnd tV3 (bV3 400) (arcF d e k)
 c : Bnd tV3 (bV3 4000) (B7 p d e k)
 cv : Bnd qQ (zI 4000) (EB p d e k)
theorem KX {p d e : V3} {k : Int} (hp : Bnd tV3 (bV3 16) p) (hd : Bnd tV3 (bV3 16) d) (he : Bnd tV3 (bV3 16) e) (hk : ¬ (k < 0 ∨ 64 < k)) : ArcB p d e k := by
 have hk2 : k.toNat ≤ 64 := by omega
 have m16 : (bV3 16).mx = 16 := by decide
 have hdd : Bnd .rat (.n 98) (dotQ d d) := qg (EO hd hd) (by rw [m16]; omega)
 have hee : Bnd .rat (.n 98) (dotQ e e) := qg (EO he he) (by rw [m16]; omega)
 have hu : Bnd .rat (.n 326) (arcU d e k) := qg (Au (A2 hdd hee) hk2) (by simp only [Bd.nb]; omega)
 have hf : Bnd tV3 (bV3 400) (arcF d e k) := AW (Cm hu he) (by rw [m16]; simp only [Bd.mx]; omega)
 have m400 : (bV3 400).mx = 400 := by decide
 have hdf : Bnd .rat (.n 1300) (BM d e k) := qg (EO hd hf) (by rw [m16, m400]; omega)
 have hw : Bnd .rat (.n 4000) (arcW d e k) := qg (Au (A2 (wJ hdd hdf) (zx hdd hdd)) hk2) (by simp only [Bd.nb]; omega)
 have hm : Bnd .rat (.n 1600) (arcM d e k) := qg (A2 hdd (zx hdd hdf)) (by omega)
 have hdf2 := wK hd hf
 have hc : Bnd tV3 (bV3 4000) (B7 p d e k) := AW (wK hp (Cm hm hdf2)) (by simp only [Bd.mx]; omega)
 have hpd : Bnd tV3 (bV3 4000) (addV p d) := AW (wK hp hd) (by rw [m16]; omega)
 have hpf : Bnd tV3 (bV3 4000) (addV p (arcF d e k)) := AW (wK hp hf) (by rw [m16, m400]; omega)
 refine ⟨hw, hf, hc, ⟨by show Int.natAbs 2 ≤ 6; decide, ⟨Nat.le_refl 6, fun v hv => ?_⟩, Nat.le_refl 3, fun v hv => ?_⟩⟩
 ·simp only [List.mem_cons, List.not_mem_nil, or_false] at hv
  rcases hv with rfl | rfl | rfl | rfl | rfl | rfl <;> first | exact qG _ | exact Fi _ (by omega)
 ·simp only [List.mem_cons, List.not_mem_nil, or_false] at hv
  rcases hv with rfl | rfl | rfl
  ·exact ⟨hpd, Fi _ (by omega)⟩
  ·exact ⟨AW hp (by omega), hw⟩
  ·exact ⟨hpf, Fi _ (by omega)⟩
theorem We {p d e : V3} {k : Int} (hp : Bnd tV3 (bV3 16) p) (hd : Bnd tV3 (bV3 16) d) (he : Bnd tV3 (bV3 16) e) :
    Bnd qQ (zI 4000) (arcR p d e k).1 ∧ Bnd tV3 (bV3 4000) (arcR p d e k).2.1 ∧ Bnd (.pr .rat .rat) (.p (.n 2000000) (.n 2000000)) (arcR p d e k).2.2.1 ∧ (arcR p d e k).2.2.2.natAbs ≤ 16 := by
  have z : ∀ c : Int, c.natAbs ≤ 16 → Bnd qQ (zI 4000) (ze c).1 ∧ Bnd tV3 (bV3 4000) (ze c).2.1 ∧ Bnd (.pr .rat .rat) (.p (.n 2000000) (.n 2000000)) (ze c).2.2.1 ∧ (ze c).2.2.2.natAbs ≤ 16 := fun c hc =>
    ⟨⟨by show Int.natAbs 0 ≤ 6; decide, ⟨by show 0 ≤ 6; omega, fun v hv => by simp [ze] at hv⟩, by show 0 ≤ 3; omega, fun v hv => by simp [ze] at hv⟩, ⟨qG _, qG _, qG _⟩, ⟨qG _, qG _⟩, hc⟩
  by_cases h : k < 0 ∨ 64 < k
  · rw [← wZ h]; exact z 1 (by decide)
  · by_cases h2 : zj d e = (0, 0, 0)
    · rw [← EC h h2]; exact z 9 (by decide)
    · by_cases h3 : sgnQ (arcU d e k) = 0 ∨ sgnQ (arcW d e k) = 0
      · rw [← A1 h h2 h3]; exact z 6 (by decide)
      · by_cases h4 : quoC (dotQ d d + BM d e k) ≠ 0
        · rw [← ED h h2 h3 h4]; exact z 7 (by decide)
        · rw [← EE h h2 h3 h4]
          have b := KX hp hd he h
          exact ⟨b.cv, b.c, IN b.cv rfl b.c, by show Int.natAbs 0 ≤ 16; decide⟩
theorem Gt : Bnd qQ (zI 4000) ((0, [], []) : qN) ∧ Bnd tV3 (bV3 4000) ((0, 0, 0) : V3) ∧ Bnd (.pr .rat .rat) (.p (.n 2000000) (.n 2000000)) ((0, 0) : Rat × Rat) :=
 ⟨⟨by show Int.natAbs 0 ≤ 6; decide, ⟨by show 0 ≤ 6; omega, fun v hv => by cases hv⟩, by show 0 ≤ 3; omega, fun v hv => by cases hv⟩, ⟨qG _, qG _, qG _⟩, ⟨qG _, qG _⟩⟩
end
structure EqI {α : Type} (l m : List α) (i : Nat) : Prop where
 hl : l.length = m.length
 hi : i ≤ l.length
 ht : l.take i = m.take i
theorem EqI.start {α : Type} {l m : List α} (h : l.length = m.length) : EqI l m 0 := ⟨h, by omega, by simp⟩
theorem EqI.step {α : Type} {l m : List α} {i : Nat} (h : EqI l m i) (d : α) (hi : i < l.length) (he : l.getD i d = m.getD i d) : EqI l m (i + 1) :=
 ⟨h.hl, by omega, by have := h.hl; rw [vC (d := d) hi, vC (d := d) (by omega), h.ht, he]⟩
theorem EqI.fin {α : Type} {l m : List α} {i : Nat} (h : EqI l m i) (hi : ¬ i < l.length) : l = m := by
 have h1 := h.hl
 have := h.ht
 rwa [List.take_of_length_le (by omega), List.take_of_length_le (by omega)] at this
theorem L4 {α : Type} [DecidableEq α] {l m : List α} {i : Nat} (d : α) (h : ¬ l.getD i d = m.getD i d) : false = decide (l = m) := (decide_eq_false fun e => h (by rw [e])).symm
theorem MO {α : Type} [DecidableEq α] {l m : List α} (h : l.length ≠ m.length) : false = decide (l = m) := (decide_eq_false fun e => h (by rw [e])).symm
theorem QG {x y : Pole} (h : ¬ x.1 = y.1) : ¬ x = y := fun e => h (by rw [e])
theorem QH {x y : Pole} (h : ¬ x.2 = y.2) : ¬ x = y := fun e => h (by rw [e])
def D7 (x : Rat) : Bool := Nat.blt x.num.natAbs 65536 && Nat.ble x.den 65536
theorem Ej {x : Rat} (h : D7 x = true) : Bnd .rat (.n 16) x := by
 unfold D7 at h
 simp only [Bool.and_eq_true] at h
 exact ⟨by have := Nat.le_of_ble_eq_true h.1; exact this, Nat.le_of_ble_eq_true h.2⟩
theorem J4 {x : V3} (h : (D7 x.1 && D7 x.2.1 && D7 x.2.2) = true) : Bnd tV3 (bV3 16) x := by
 simp only [Bool.and_eq_true] at h
 exact ⟨Ej h.1.1, Ej h.1.2, Ej h.2⟩
abbrev Dice : Type := List Int × Nat
abbrev jp : Ty := .pr (.sl (.int .i64)) (.nat .i64)
theorem mod_a {a m : Int} (hm : 0 < m) (h : Int.tmod a m < 0) : Int.tmod a m + m = a % m := by
 have h1 := Int.tmod_eq_emod (a := a) (b := m)
 have h2 := Int.emod_nonneg a (show m ≠ 0 by omega)
 have h3 := Int.emod_lt_of_pos a hm
 split at h1 <;> omega
theorem q0k {a m : Int} (hm : 0 < m) (h : ¬ Int.tmod a m < 0) : Int.tmod a m = a % m := by
 have h1 := Int.tmod_eq_emod (a := a) (b := m)
 have h2 := Int.emod_nonneg a (show m ≠ 0 by omega)
 have h3 := Int.emod_lt_of_pos a hm
 split at h1 <;> omega
theorem NA {a m : Int} {b : Nat} (hm : 0 < m) (hb : Int.natAbs m ≤ b) : (a % m).natAbs ≤ b := by
 have h2 := Int.emod_nonneg a (show m ≠ 0 by omega)
 have h3 := Int.emod_lt_of_pos a hm
 omega
def q8 (s : Dice) (m : Int) : Int := if s.1.length ≤ s.2 then 0 else s.1.getD s.2 0 % m
def q6 (s : Dice) : Dice := if s.1.length ≤ s.2 then s else (s.1, s.2 + 1)
theorem Ue {s : Dice} {m : Int} {b : Nat} (hm : 0 < m) (hb : Int.natAbs m ≤ b) : (q8 s m).natAbs ≤ b := by
 unfold q8; split
 ·simp
 ·exact NA hm hb
theorem vv (s : Dice) {m : Int} (hm : 0 < m) : 0 ≤ q8 s m ∧ q8 s m < m := by
 unfold q8; split
 ·omega
 ·exact ⟨Int.emod_nonneg _ (by omega), Int.emod_lt_of_pos _ hm⟩
theorem Ac {s : Dice} {b : Bd} (h : Bnd jp b s) : Bnd jp (.p b.l (.n (max b.r.nb b.l.len))) (q6 s) := by
 have h1 := h.pr
 have h2 := h1.2.nat
 have h3 := h1.1.sl.1
 unfold q6; split
 ·exact ⟨h1.1, Nat.le_trans h2 (Nat.le_max_left _ _)⟩
 ·refine ⟨h1.1, ?_⟩
  show s.2 + 1 ≤ _
  have := Nat.le_max_right b.r.nb b.l.len
  omega
theorem jH {s : Dice} {b : Bd} (h : Bnd jp (.p b.l (.n (max b.r.nb b.l.len))) s) : Bnd jp (.p b.l (.n (max b.r.nb b.l.len))) (q6 s) := by
 have := Ac h
 simpa [Bd.l, Bd.r, Bd.nb, Nat.max_assoc] using this
def numV (s : Dice) : Rat := if q8 (q6 s) 4 = 3 then ((q8 s 13 - 6 : Int) : Rat) / ((1 + q8 (q6 (q6 s)) 4 : Int) : Rat) else ((q8 s 13 - 6 : Int) : Rat)
def numS (s : Dice) : Dice := if q8 (q6 s) 4 = 3 then q6 (q6 (q6 s)) else q6 (q6 s)
theorem NJ {s : Dice} {b : Bd} (h : Bnd jp b s) : Bnd jp (.p b.l (.n (max b.r.nb b.l.len))) (numS s) := by
 have h1 := jH (Ac h)
 unfold numS; split
 ·exact jH h1
 ·exact h1
theorem Ki {s : Dice} {b : Bd} (h : Bnd jp (.p b.l (.n (max b.r.nb b.l.len))) s) : Bnd jp (.p b.l (.n (max b.r.nb b.l.len))) (numS s) := by
 have h1 := jH (jH h)
 unfold numS; split
 ·exact jH h1
 ·exact h1
theorem Fd (s : Dice) : Bnd .rat (.n 5) (numV s) := by
 have h1 := vv s (m := 13) (by omega)
 have h2 := vv (q6 (q6 s)) (m := 4) (by omega)
 have e1 : Nat.log2 19 + 1 = 5 := by decide
 have e2 : max (Nat.log2 19 + 1) (Nat.log2 5 + 1) = 5 := by decide
 unfold numV; split
 ·have := wu (n := q8 s 13 - 6) (d := 1 + q8 (q6 (q6 s)) 4) (b := 19) (c := 5) (by omega) (by omega)
  rwa [e2] at this
 ·have := z5 (v := q8 s 13 - 6) (b := 19) (by omega)
  rwa [e1] at this
def vw (s : Dice) : V3 := (numV s, numV (numS s), numV (numS (numS s)))
def jY (s : Dice) : Dice := numS (numS (numS s))
theorem IG {s : Dice} {b : Bd} (h : Bnd jp b s) : Bnd jp (.p b.l (.n (max b.r.nb b.l.len))) (jY s) := by
 unfold jY; exact Ki (b := b) (Ki (b := b) (NJ (b := b) h))
theorem Ee (s : Dice) : Bnd tV3 (bV3 5) (vw s) := by
 have h1 := Fd s; have h2 := Fd (numS s); have h3 := Fd (numS (numS s))
 unfold vw
 generalize numV s = a at *; generalize numV (numS s) = c at *; generalize numV (numS (numS s)) = d at *
 exact ⟨h1, h2, h3⟩
theorem vn {a b e : Int} (h : a - b = e) (hb : e.natAbs ≤ 4611686018427387904) : qo .sub .i64 a b e := by
 show IntKind.wrap .i64 (a - b) = e
 rw [h]; exact Cv (by omega) (by omega)
theorem Pc {a b e : Int} (h : a + b = e) (hb : e.natAbs ≤ 4611686018427387904) : qo .add .i64 a b e := by
 show IntKind.wrap .i64 (a + b) = e
 rw [h]; exact Cv (by omega) (by omega)
theorem J8 {a : Int} (h : a.natAbs ≤ 9223372036854775808) : (Int.tdiv a 17).natAbs ≤ 1152921504606846976 := by
 rw [Int.natAbs_tdiv]
 show a.natAbs / 17 ≤ _
 omega
theorem SD {a : Int} (h : a.natAbs ≤ 9223372036854775808) : qo .quo .i64 a 17 (Int.tdiv a 17) :=
 ⟨by decide, Cv (by have := J8 h; omega) (by have := J8 h; omega)⟩
def zb (n : Int) : Int := 1 + Int.tdiv n 17 % 12
def jt (n : Int) : Rat := ((n % (zb n + 1) : Int) : Rat) / ((zb n : Int) : Rat)
theorem Gc (n : Int) : 1 ≤ zb n ∧ zb n ≤ 12 := by unfold zb; omega
theorem Gd (n : Int) : Bnd .rat (.n 5) (jt n) := by
 have h := Gc n
 have h1 : (n % (zb n + 1)).natAbs ≤ 12 := by
  have := Int.emod_nonneg n (show zb n + 1 ≠ 0 by omega)
  have := Int.emod_lt_of_pos n (show 0 < zb n + 1 by omega)
  omega
 have h2 : (zb n).natAbs ≤ 12 := by omega
 exact qg (wu h1 h2) (by decide)
theorem Ed (n : Int) : 0 ≤ jt n ∧ jt n ≤ 1 := by
 have h := Gc n
 have a := Int.emod_nonneg n (show zb n + 1 ≠ 0 by omega)
 have b := Int.emod_lt_of_pos n (show 0 < zb n + 1 by omega)
 have p : (0 : Rat) < ((zb n : Int) : Rat) := Rat.intCast_pos.2 (by omega)
 unfold jt
 refine ⟨?_, ?_⟩
 ·rw [Rat.div_def]; exact Rat.mul_nonneg (Rat.intCast_nonneg.2 a) (Rat.le_of_lt (Rat.inv_pos.2 p))
 ·have q : ((n % (zb n + 1) : Int) : Rat) ≤ ((zb n : Int) : Rat) := Rat.intCast_le_intCast.2 (by omega)
  rw [Rat.div_def]
  have r := Rat.mul_le_mul_of_nonneg_right q (Rat.le_of_lt (Rat.inv_pos.2 p))
  rwa [Rat.mul_inv_cancel _ (fun e => by rw [e] at p; exact absurd p (by decide))] at r
section
theorem BF (x : Rat) : Nat.gcd x.num.natAbs x.den = 1 := x.reduced
theorem KK {d : Nat} (h : (denL d).length = 1) (h1 : (denL d).getD 0 0 = 1) : False := by
 rw [FT] at h h1
 have e : dm d = 1 := jX h h1
 unfold dm at e; split at e <;> omega
theorem DI {x : Rat} (h : (limbs x.num.natAbs).length = 0) (h2 : x.num < 0) : False := by
 have := nl0.1 h; omega
theorem Er {x : Rat} (h : (limbs x.num.natAbs).length = 0) (h2 : 0 < (denL x.den).length) : False := by
 have e : x = 0 := Rat.num_eq_zero.1 (by have := nl0.1 h; omega)
 subst e
 exact absurd h2 (by decide)
theorem w6 {g : Nat} (h : g = 1) : (limbs g).length = 1 ∧ (limbs g).getD 0 0 = 1 := by subst h; exact ⟨by rw [zm]; rfl, by rw [zm]; rfl⟩
def j5 (x : Rat) : Nat := max (bl x.num.natAbs) (bl x.den)
theorem DZ {x : Rat} {m : Nat} (h : Bnd .rat (.n m) x) : j5 x ≤ m + 1 := by
 have h := h.rat
 have h1 := wE h.1
 have h2 := wE (z6 h.2)
 simp only [Bd.nb] at h1 h2
 unfold j5; omega
def dstN (k : List Rat) : Nat → List Rat
 | 0 => []
 | n + 1 => if n = 0 ∨ k.getD n 0 ≠ k.getD (n - 1) 0 then dstN k n ++ [k.getD n 0] else dstN k n
abbrev dst (k : List Rat) : List Rat := dstN k k.length
theorem wq (k : List Rat) : ∀ n, (dstN k n).length ≤ n
 | 0 => Nat.le_refl 0
 | n + 1 => by have := wq k n; rw [dstN]; split <;> (try simp only [List.length_append, List.length_cons, List.length_nil]) <;> omega
theorem BV {k : List Rat} : ∀ {n : Nat}, n ≤ k.length → ∀ x ∈ dstN k n, x ∈ k
 | 0, _, x, h => by cases h
 | n + 1, hn, x, h => by
  rw [dstN] at h; split at h
  ·rcases List.mem_append.1 h with h | h
   ·exact BV (by omega) x h
   ·simp only [List.mem_singleton] at h; subst h; rw [j1 (by omega)]; exact List.getElem_mem _
  ·exact BV (by omega) x h
theorem Sd {k : List Rat} {b : Bd} (h : Bnd (.sl .rat) b k) : Bnd (.sl .rat) (.s b.len (.n b.mx)) (dst k) :=
 ⟨Nat.le_trans (wq k _) h.slm.1, fun v hv => h.slm.2 v (BV (Nat.le_refl _) v hv)⟩
theorem K0 {k : List Rat} {n : Nat} (h : n = 0 ∨ ¬ k.getD n 0 = k.getD (n - 1) 0) : dstN k n ++ [k.getD n 0] = dstN k (n + 1) := by rw [dstN, if_pos h]
theorem WO {k : List Rat} {n : Nat} (h : ¬ n = 0) (h2 : k.getD n 0 = k.getD (n - 1) 0) : dstN k n = dstN k (n + 1) := by rw [dstN, if_neg (by rintro (e | e); exact h e; exact e h2)]
def qu (k : List Rat) (t : Rat) : Nat → Nat
 | 0 => 0
 | n + 1 => if k.getD n 0 = t then qu k t n + 1 else qu k t n
theorem w4 (k : List Rat) (t : Rat) : ∀ n, qu k t n ≤ n
 | 0 => Nat.le_refl 0
 | n + 1 => by have := w4 k t n; rw [qu]; split <;> omega
def srtN (k : List Rat) : Nat → Bool
 | 0 => true
 | n + 1 => srtN k n && (decide (n = 0) || decide (¬ cmpQ (k.getD n 0) (k.getD (n - 1) 0) < 0))
theorem Rc {k : List Rat} {n : Nat} (h : srtN k n = true) (h2 : ¬ cmpQ (k.getD n 0) (k.getD (n - 1) 0) < 0) : srtN k (n + 1) = true := by rw [srtN, h, decide_eq_true h2]; simp
theorem KD {k : List Rat} {n m : Nat} (hn : 1 ≤ n) (h2 : cmpQ (k.getD n 0) (k.getD (n - 1) 0) < 0) (hm : n < m) : srtN k m = false := by
 induction m with
 | zero => omega
 | succ m ih =>
  rw [srtN]
  by_cases e : n = m
  ·subst e; rw [decide_eq_false (show ¬ n = 0 by omega), decide_eq_false (show ¬ ¬ _ from fun h => h h2)]; simp
  ·rw [ih (by omega)]; rfl
def badM (k : List Rat) (d : Int) (i : Nat) : Prop :=
 ((i = 0 ∨ i + 1 = (dst k).length) ∧ ((qu k ((dst k).getD i 0) k.length : Nat) : Int) ≠ d + 1) ∨ d + 1 < ((qu k ((dst k).getD i 0) k.length : Nat) : Int) ∨ (0 < i ∧ i + 1 < (dst k).length ∧ d < ((qu k ((dst k).getD i 0) k.length : Nat) : Int))
instance (k : List Rat) (d : Int) (i : Nat) : Decidable (badM k d i) := by unfold badM; infer_instance
def okN (k : List Rat) (d : Int) : Nat → Bool
 | 0 => true
 | i + 1 => okN k d i && decide (¬ badM k d i)
theorem jR {k : List Rat} {d : Int} {i : Nat} (h : okN k d i = true) (h2 : ¬ badM k d i) : okN k d (i + 1) = true := by rw [okN, h, decide_eq_true h2]; rfl
theorem z0 {k : List Rat} {d : Int} {i m : Nat} (h2 : badM k d i) (hm : i < m) : okN k d m = false := by
 induction m with
 | zero => omega
 | succ m ih =>
  rw [okN]
  by_cases e : i = m
  ·subst e; rw [decide_eq_false (show ¬ ¬ _ from fun h => h h2), Bool.and_false]
  ·rw [ih (by omega)]; rfl
def chkK (k : List Rat) (d : Int) : Int :=
 if d < 1 ∨ 6 < d then 1 else if (k.length : Int) < 2 * d + 2 then 5 else if 40 < (k.length : Int) - d - 1 then 2 else
 if srtN k k.length = false then 5 else if okN k d (dst k).length = false then 5 else if (dst k).length < 2 then 5 else 0
theorem HO (k : List Rat) (d : Int) : (chkK k d).natAbs ≤ 5 := by
 unfold chkK
 repeat' split
 all_goals decide
section
variable {k : List Rat} {d : Int}
theorem Hg (h : d < 1 ∨ 6 < d) : 1 = chkK k d := by rw [chkK, if_pos h]
theorem S6 (h : ¬ (d < 1 ∨ 6 < d)) (h2 : (k.length : Int) < 2 * d + 2) : 5 = chkK k d := by rw [chkK, if_neg h, if_pos h2]
theorem S7 (h : ¬ (d < 1 ∨ 6 < d)) (h2 : ¬ (k.length : Int) < 2 * d + 2) (h3 : 40 < (k.length : Int) - d - 1) : 2 = chkK k d := by rw [chkK, if_neg h, if_neg h2, if_pos h3]
theorem S8 (h : ¬ (d < 1 ∨ 6 < d)) (h2 : ¬ (k.length : Int) < 2 * d + 2) (h3 : ¬ 40 < (k.length : Int) - d - 1) (h4 : srtN k k.length = false) : 5 = chkK k d := by rw [chkK, if_neg h, if_neg h2, if_neg h3, if_pos h4]
theorem zz (h : ¬ (d < 1 ∨ 6 < d)) (h2 : ¬ (k.length : Int) < 2 * d + 2) (h3 : ¬ 40 < (k.length : Int) - d - 1) (h4 : srtN k k.length = true) (h5 : okN k d (dst k).length = false) : 5 = chkK k d := by
 rw [chkK, if_neg h, if_neg h2, if_neg h3, if_neg (by rw [h4]; exact fun e => by cases e), if_pos h5]
theorem S9 (h : ¬ (d < 1 ∨ 6 < d)) (h2 : ¬ (k.length : Int) < 2 * d + 2) (h3 : ¬ 40 < (k.length : Int) - d - 1) (h4 : srtN k k.length = true) (h5 : okN k d (dst k).length = true) (h6 : (dst k).length < 2) : 5 = chkK k d := by
 rw [chkK, if_neg h, if_neg h2, if_neg h3, if_neg (by rw [h4]; exact fun e => by cases e), if_neg (by rw [h5]; exact fun e => by cases e), if_pos h6]
theorem Sa (h : ¬ (d < 1 ∨ 6 < d)) (h2 : ¬ (k.length : Int) < 2 * d + 2) (h3 : ¬ 40 < (k.length : Int) - d - 1) (h4 : srtN k k.length = true) (h5 : okN k d (dst k).length = true) (h6 : ¬ (dst k).length < 2) : 0 = chkK k d := by
 rw [chkK, if_neg h, if_neg h2, if_neg h3, if_neg (by rw [h4]; exact fun e => by cases e), if_neg (by rw [h5]; exact fun e => by cases e), if_neg h6]
end
def wgtN (l : List Pole) : Nat → Bool
 | 0 => true
 | n + 1 => wgtN l n && decide (0 < sgnQ (l.getD n ((0, 0, 0), 0)).2)
theorem RB {l : List Pole} {n : Nat} (h : wgtN l n = true) (h2 : ¬ sgnQ (l.getD n ((0, 0, 0), 0)).2 ≤ 0) : wgtN l (n + 1) = true := by rw [wgtN, h, decide_eq_true (by omega)]; rfl
theorem KN {l : List Pole} {n m : Nat} (h2 : sgnQ (l.getD n ((0, 0, 0), 0)).2 ≤ 0) (hm : n < m) : wgtN l m = false := by
 induction m with
 | zero => omega
 | succ m ih =>
  rw [wgtN]
  by_cases e : n = m
  ·subst e; rw [decide_eq_false (by omega), Bool.and_false]
  ·rw [ih (by omega)]; rfl
def chkC (c : qN) : Int :=
 if chkK c.2.1 c.1 ≠ 0 then chkK c.2.1 c.1 else if ((c.2.2.length : Nat) : Int) ≠ (c.2.1.length : Int) - c.1 - 1 then 1 else if wgtN c.2.2 c.2.2.length = false then 6 else 0
theorem HN (c : qN) : (chkC c).natAbs ≤ 8 := by
 unfold chkC; have := HO c.2.1 c.1
 repeat' split
 all_goals first | omega | decide
section
variable {c : qN}
theorem S2 (h : chkK c.2.1 c.1 ≠ 0) : chkK c.2.1 c.1 = chkC c := by rw [chkC, if_pos h]
theorem S3 (h : ¬ chkK c.2.1 c.1 ≠ 0) (h2 : ((c.2.2.length : Nat) : Int) ≠ (c.2.1.length : Int) - c.1 - 1) : 1 = chkC c := by rw [chkC, if_neg h, if_pos h2]
theorem S4 (h : ¬ chkK c.2.1 c.1 ≠ 0) (h2 : ¬ ((c.2.2.length : Nat) : Int) ≠ (c.2.1.length : Int) - c.1 - 1) (h3 : wgtN c.2.2 c.2.2.length = false) : 6 = chkC c := by rw [chkC, if_neg h, if_neg h2, if_pos h3]
theorem S5 (h : ¬ chkK c.2.1 c.1 ≠ 0) (h2 : ¬ ((c.2.2.length : Nat) : Int) ≠ (c.2.1.length : Int) - c.1 - 1) (h3 : wgtN c.2.2 c.2.2.length = true) : 0 = chkC c := by rw [chkC, if_neg h, if_neg h2, if_neg (by rw [h3]; exact fun e => by cases e)]
end
def ivl (k : List Rat) (t : Rat) : Nat → Nat
 | 0 => 0
 | n + 1 => if cmpQ t (k.getD (n + 1) 0) < 0 then ivl k t n else n + 1
theorem CL (k : List Rat) (t : Rat) : ∀ n, ivl k t n ≤ n
 | 0 => Nat.le_refl 0
 | n + 1 => by have := CL k t n; rw [ivl]; split <;> omega
theorem PV {k : List Rat} {t : Rat} {n : Nat} (h0 : 0 < n) (h : cmpQ t (k.getD n 0) < 0) : ivl k t (n - 1) = ivl k t n := by
 obtain ⟨m, rfl⟩ : ∃ m, n = m + 1 := ⟨n - 1, by omega⟩
 rw [ivl, if_pos h]; rfl
theorem PW {k : List Rat} {t : Rat} {n : Nat} (h : 0 < n → ¬ cmpQ t (k.getD n 0) < 0) : ivl k t n = n := by
 cases n with
 | zero => rfl
 | succ m => rw [ivl, if_neg (h (by omega))]
def ivO (k : List Rat) (t : Rat) : Prop := cmpQ t (k.getD 0 0) < 0 ∨ 0 < cmpQ t (k.getD (k.length - 1) 0)
instance (k : List Rat) (t : Rat) : Decidable (ivO k t) := by unfold ivO; infer_instance
def ivE (k : List Rat) (t : Rat) : Int := if ivO k t then 7 else 0
def ivI (k : List Rat) (d : Int) (t : Rat) : Nat := if ivO k t then 0 else ivl k t (k.length - 2 - d.toNat)
theorem N5 (k : List Rat) (d : Int) (t : Rat) : ivI k d t ≤ k.length := by
 unfold ivI; split
 ·omega
 ·have := CL k t (k.length - 2 - d.toNat); omega
theorem Dr (k : List Rat) (t : Rat) : (ivE k t).natAbs ≤ 7 := by unfold ivE; split <;> decide
structure IvZ (k : List Rat) (d : Int) (t : Rat) (z : Nat) : Prop where
 hi : z ≤ k.length - 2 - d.toNat
 he : ivl k t z = ivl k t (k.length - 2 - d.toNat)
theorem IvZ.start (k : List Rat) (d : Int) (t : Rat) : IvZ k d t (k.length - 2 - d.toNat) := ⟨Nat.le_refl _, rfl⟩
theorem IvZ.step {k : List Rat} {d : Int} {t : Rat} {z : Nat} (h : IvZ k d t z) (h0 : 0 < z) (h2 : cmpQ t (k.getD z 0) < 0) : IvZ k d t (z - 1) := ⟨by have := h.hi; omega, by rw [PV h0 h2, h.he]⟩
theorem IvZ.fin {k : List Rat} {d : Int} {t : Rat} {z : Nat} (h : IvZ k d t z) (hO : ¬ ivO k t) (h2 : 0 < z → ¬ cmpQ t (k.getD z 0) < 0) : z = ivI k d t := by
 rw [ivI, if_neg hO, ← h.he, PW h2]
def bsp (k : List Rat) (t : Rat) (at_ : Nat) : Nat → Nat → Rat
 | 0, i => if i = at_ then ((1 : Int) : Rat) else 0
 | d + 1, i => if at_ < i ∨ i + (d + 1) < at_ then 0 else
  (t - k.getD i 0) / (k.getD (i + (d + 1)) 0 - k.getD i 0) * bsp k t at_ d i + (k.getD (i + (d + 1) + 1) 0 - t) / (k.getD (i + (d + 1) + 1) 0 - k.getD (i + 1) 0) * bsp k t at_ d (i + 1)
theorem Wv {k : List Rat} {t : Rat} {a i : Nat} {d : Int} (hd : d = 0) (h : i = a) : ((1 : Int) : Rat) = bsp k t a d.toNat i := by subst hd; subst h; simp [bsp]
theorem Wu {k : List Rat} {t : Rat} {a i : Nat} {d : Int} (hd : d = 0) (h : ¬ i = a) : 0 = bsp k t a d.toNat i := by subst hd; simp [bsp, h]
theorem JS {k : List Rat} {t : Rat} {a i : Nat} {d : Int} (hd : 0 < d) (h : a < i ∨ i + d.toNat < a) : 0 = bsp k t a d.toNat i := by
 obtain ⟨n, hn⟩ : ∃ n, d.toNat = n + 1 := ⟨d.toNat - 1, by omega⟩
 rw [hn] at h ⊢
 rw [bsp, if_pos h]
theorem Ww {k : List Rat} {t : Rat} {a i : Nat} {d : Int} (hd : 0 < d) (h : ¬ (a < i ∨ i + d.toNat < a)) :
    (t - k.getD i 0) / (k.getD (i + d.toNat) 0 - k.getD i 0) * bsp k t a (d - 1).toNat i + (k.getD (i + d.toNat + 1) 0 - t) / (k.getD (i + d.toNat + 1) 0 - k.getD (i + 1) 0) * bsp k t a (d - 1).toNat (i + 1) = bsp k t a d.toNat i := by
  obtain ⟨n, hn⟩ : ∃ n, d.toNat = n + 1 := ⟨d.toNat - 1, by omega⟩
  rw [hn] at h ⊢
  rw [show (d - 1).toNat = n by omega]
  conv => rhs; rw [bsp, if_neg h]
def bspB (m : Nat) : Nat → Nat
 | 0 => 2
 | d + 1 => 2 * (4 * m + 2 + bspB m d) + 1
theorem GA (m : Nat) {a c : Nat} (h : a ≤ c) : bspB m a ≤ bspB m c := by
 induction h with
 | refl => exact Nat.le_refl _
 | step h ih => rw [bspB]; omega
theorem Hf {k : List Rat} {t : Rat} {m : Nat} (hk : ∀ v ∈ k, Bnd .rat (.n m) v) (ht : Bnd .rat (.n m) t) (a : Nat) : ∀ d i, Bnd .rat (.n (bspB m d)) (bsp k t a d i)
 | 0, i => by
  rw [bsp]; split
  ·exact Fi _ (show 1 ≤ 2 by decide)
  ·exact qG _
 | d + 1, i => by
  rw [bsp]; split
  ·exact qG _
  ·have g : ∀ j, Bnd .rat (.n m) (k.getD j 0) := fun j => v8 hk j
   have h1 := j6 (A2 (wJ ht (g i)) (wJ (g (i + (d + 1))) (g i))) (Hf hk ht a d i)
   have h2 := j6 (A2 (wJ (g (i + (d + 1) + 1)) ht) (wJ (g (i + (d + 1) + 1)) (g (i + 1)))) (Hf hk ht a d (i + 1))
   exact qg (zx h1 h2) (by rw [bspB]; omega)
theorem Mq {k : List Rat} {t : Rat} (hk : ∀ v ∈ k, Bnd .rat (.n 4096) v) (ht : Bnd .rat (.n 4096) t) (a : Nat) {d : Int} (hd : d ≤ 6) (i : Nat) : Bnd .rat (.n 4194304) (bsp k t a d.toNat i) :=
 qg (Hf hk ht a d.toNat i) (Nat.le_trans (GA 4096 (show d.toNat ≤ 6 by omega)) (by decide))
def bvlL (k : List Rat) (d : Int) (t : Rat) : List Rat := if ivO k t then [] else (List.range (d.toNat + 1)).map fun j => bsp k t (ivI k d t) d.toNat (ivI k d t - d.toNat + j)
end
abbrev F4 : Type := Rat × Rat × Rat × Rat
abbrev tF4 : Ty := .pr .rat (.pr .rat (.pr .rat .rat))
abbrev bF4 (m : Nat) : Bd := .p (.n m) (.p (.n m) (.p (.n m) (.n m)))
def vM (p : Pole) : F4 := (p.2 * p.1.1, p.2 * p.1.2.1, p.2 * p.1.2.2, p.2)
def ja (h : F4) : Pole := (jc (((1 : Int) : Rat) / h.2.2.2) (h.1, h.2.1, h.2.2.1), h.2.2.2)
theorem Hk {x : F4} {a c : Nat} (h : Bnd tF4 (bF4 a) x) (hm : a ≤ c) : Bnd tF4 (bF4 c) x := ⟨qg h.1 hm, qg h.2.1 hm, qg h.2.2.1 hm, qg h.2.2.2 hm⟩
theorem U2 {p : Pole} {b : Bd} (h : Bnd (.pr tV3 .rat) b p) : Bnd tF4 (bF4 (2 * b.mx)) (vM p) := by
 have hw : Bnd .rat (.n b.mx) p.2 := vi h.pr.2 (Nat.le_trans (Bd.nb_mx _) b.r_mx)
 have hv := h.pr.1.v3
 have := b.l_mx
 exact ⟨qg (j6 hw hv.1) (by omega), qg (j6 hw hv.2.1) (by omega), qg (j6 hw hv.2.2) (by omega), qg hw (by omega)⟩
theorem FU {h : F4} {b : Bd} (hh : Bnd tF4 b h) : Bnd (.pr tV3 .rat) (.p (bV3 (2 * b.mx + 2)) (.n (2 * b.mx + 2))) (ja h) := by
 have g1 := hh.pr.1
 have g2 := hh.pr.2.pr.1
 have g3 := hh.pr.2.pr.2.pr.1
 have g4 := hh.pr.2.pr.2.pr.2
 have w : ∀ {c : Bd} {x : Rat}, Bnd .rat c x → c.mx ≤ b.mx → Bnd .rat (.n b.mx) x := fun hx hm => vi hx (Nat.le_trans (Bd.nb_mx _) hm)
 have m1 := b.l_mx; have m2 := b.r_mx; have m3 := b.r.l_mx; have m4 := b.r.r_mx; have m5 := b.r.r.l_mx; have m6 := b.r.r.r_mx
 have k1 := w g1 m1
 have k2 := w g2 (by omega)
 have k3 := w g3 (by omega)
 have k4 := w g4 (by omega)
 have q := A2 (Fi 1 (Nat.le_refl 1)) k4
 exact ⟨⟨qg (j6 q k1) (by omega), qg (j6 q k2) (by omega), qg (j6 q k3) (by omega)⟩, qg k4 (by omega)⟩
abbrev d0 : Pole := ((0, 0, 0), 0)
def homS (o : F4) (x : Rat) (h : F4) : F4 := (o.1 + x * h.1, o.2.1 + x * h.2.1, o.2.2.1 + x * h.2.2.1, o.2.2.2 + x * h.2.2.2)
def homN (ps : List Pole) (l : List Rat) (f : Nat) : Nat → F4
 | 0 => (0, 0, 0, 0)
 | n + 1 => homS (homN ps l f n) (l.getD n 0) (vM (ps.getD (f + n) d0))
theorem F1 {ps : List Pole} {l : List Rat} {m e : Nat} (hp : ∀ p ∈ ps, Bnd (.pr tV3 .rat) (.p (bV3 m) (.n m)) p) (hl : ∀ v ∈ l, Bnd .rat (.n e) v) (f : Nat) : ∀ n, Bnd tF4 (bF4 (n * (e + 2 * m + 1))) (homN ps l f n)
 | 0 => ⟨qG _, qG _, qG _, qG _⟩
 | n + 1 => by
  have h := F1 hp hl f n
  have hh : Bnd tF4 (bF4 (2 * m)) (vM (ps.getD (f + n) d0)) := by
   by_cases hi : f + n < ps.length
   ·have := U2 (hp _ (show ps.getD (f + n) d0 ∈ ps by rw [j1 hi]; exact List.getElem_mem hi))
    exact Hk this (by simp only [Bd.mx]; omega)
   ·have : ps.getD (f + n) d0 = d0 := by rw [List.getD_eq_getElem?_getD, List.getElem?_eq_none (by omega)]; rfl
    rw [this]
    have z : ∀ a, (0 : Rat) * a = 0 := fun a => Rat.zero_mul a
    unfold vM
    simp only [z]
    exact ⟨qG _, qG _, qG _, qG _⟩
  have hx : Bnd .rat (.n e) (l.getD n 0) := v8 hl n
  have e1 : (n + 1) * (e + 2 * m + 1) = n * (e + 2 * m + 1) + (e + 2 * m) + 1 := by rw [Nat.add_mul]; omega
  rw [e1]
  have s : ∀ {a c : Rat}, Bnd .rat (.n (n * (e + 2 * m + 1))) a → Bnd .rat (.n (2 * m)) c → Bnd .rat (.n (n * (e + 2 * m + 1) + (e + 2 * m) + 1)) (a + l.getD n 0 * c) := fun ha hc => zx ha (j6 hx hc)
  exact ⟨s h.1 hh.1, s h.2.1 hh.2.1, s h.2.2.1 hh.2.2.1, s h.2.2.2 hh.2.2.2⟩
structure EvC (c : qN) (t : Rat) : Prop where
 kb : Bnd (.sl .rat) (.s 64 (.n 4096)) c.2.1
 pb : ∀ p ∈ c.2.2, Bnd (.pr tV3 .rat) (.p (bV3 262144) (.n 262144)) p
 tb : Bnd .rat (.n 4096) t
 d0 : 0 ≤ c.1
 d6 : c.1 ≤ 6
 kl : 2 * c.1.toNat + 2 ≤ c.2.1.length
 pl : c.2.2.length + c.1.toNat + 1 = c.2.1.length
 iv : ivO c.2.1 t ∨ c.1.toNat ≤ ivI c.2.1 c.1 t
abbrev bvc (c : qN) (t : Rat) : List Rat := bvlL c.2.1 c.1 t
def homV (c : qN) (t : Rat) : F4 := homN c.2.2 (bvc c t) (ivI c.2.1 c.1 t - c.1.toNat) (bvc c t).length
def evV (c : qN) (t : Rat) : V3 := if ivO c.2.1 t then (0, 0, 0) else (ja (homV c t)).1
theorem FN {k : List Rat} {d : Int} {t : Rat} (h : ¬ ivO k t) : (bvlL k d t).length = d.toNat + 1 := by unfold bvlL; rw [if_neg h]; simp
theorem HM (k : List Rat) (d : Int) (t : Rat) : (bvlL k d t).length ≤ d.toNat + 1 := by unfold bvlL; split <;> simp
theorem L2 {k : List Rat} {d : Int} {t : Rat} (hk : ∀ v ∈ k, Bnd .rat (.n 4096) v) (ht : Bnd .rat (.n 4096) t) (hd : d ≤ 6) : ∀ v ∈ bvlL k d t, Bnd .rat (.n 4194304) v := by
 intro v hv
 unfold bvlL at hv
 split at hv
 ·cases hv
 ·obtain ⟨j, _, rfl⟩ := List.mem_map.1 hv
  exact Mq hk ht _ hd _
def bvN (k : List Rat) (d : Int) (t : Rat) (n : Nat) : List Rat := (List.range n).map fun j => bsp k t (ivI k d t) d.toNat (ivI k d t - d.toNat + j)
theorem Pj {k : List Rat} {d : Int} {t : Rat} {n i : Nat} (h : i = ivI k d t - d.toNat + n) : bvN k d t n ++ [bsp k t (ivI k d t) d.toNat i] = bvN k d t (n + 1) := by
 subst h; unfold bvN; rw [List.range_succ, List.map_append]; rfl
theorem SL {k : List Rat} {d : Int} {t : Rat} (h : ¬ ivO k t) : bvN k d t (d.toNat + 1) = bvlL k d t := by unfold bvlL bvN; rw [if_neg h]
theorem SM (k : List Rat) (d : Int) (t : Rat) (n : Nat) : (bvN k d t n).length = n := by unfold bvN; simp
theorem N1 {c : qN} {t : Rat} (h : EvC c t) : Bnd tF4 (bF4 33554432) (homV c t) := by
 refine Hk (F1 h.pb (L2 (fun v hv => h.kb.2 v hv) h.tb h.d6) _ _) ?_
 have := HM c.2.1 c.1 t
 have := h.d6
 have e : (bvc c t).length ≤ 7 := by show (bvlL _ _ _).length ≤ 7; omega
 have := Nat.mul_le_mul_right (4194304 + 2 * 262144 + 1) e
 omega
theorem Se {c : qN} {t : Rat} (h : EvC c t) : Bnd tV3 (bV3 67108868) (evV c t) := by
 unfold evV; split
 ·exact ⟨qG _, qG _, qG _⟩
 ·have e : (bF4 33554432).mx = 33554432 := by decide
  exact AW (FU (N1 h)).1 (by omega)
theorem ZT {k : List Rat} {d : Int} {t : Rat} (h : ivE k t ≠ 0) : 0 = ivI k d t - d.toNat := by
 unfold ivE at h; split at h
 ·rename_i g; rw [ivI, if_pos g]; omega
 ·exact absurd rfl h
theorem ZU {k : List Rat} {d : Int} {t : Rat} (h : ivE k t ≠ 0) : [] = bvlL k d t := by
 unfold ivE at h; split at h
 ·rename_i g; rw [bvlL, if_pos g]
 ·exact absurd rfl h
theorem F5 {k : List Rat} {t : Rat} (h : ¬ ivE k t ≠ 0) : ¬ ivO k t := fun g => h (by rw [ivE, if_pos g]; decide)
theorem Hn {k : List Rat} {t : Rat} (h : ¬ ivO k t) : 0 = ivE k t := by rw [ivE, if_neg h]
theorem K8 {k : List Rat} {d : Int} {t : Rat} : ivI k d t ≤ k.length - 2 - d.toNat := by
 unfold ivI; split
 ·omega
 ·exact CL k t _
theorem TB {c : qN} {t : Rat} (h : EvC c t) {n f : Nat} (hn : n ≤ 7) : Bnd tF4 (bF4 33554432) (homN c.2.2 (bvc c t) f n) := by
 refine Hk (F1 h.pb (L2 (fun v hv => h.kb.2 v hv) h.tb h.d6) _ _) ?_
 have := Nat.mul_le_mul_right (4194304 + 2 * 262144 + 1) hn
 omega
theorem ZI {c : qN} {t : Rat} (h : ivE c.2.1 t ≠ 0) : (0, 0, 0) = evV c t := by
 unfold ivE at h; split at h
 ·rename_i g; rw [evV, if_pos g]
 ·exact absurd rfl h
theorem ZJ {c : qN} {t : Rat} (h : ¬ ivE c.2.1 t ≠ 0) : (ja (homV c t)).1 = evV c t := by rw [evV, if_neg (F5 h)]
section
theorem Mu {x y : Rat} : cmpQ x y ≤ 0 ↔ x ≤ y := by
 unfold cmpQ; split
 ·rename_i h; exact ⟨fun _ => Rat.le_of_lt h, fun _ => by decide⟩
 ·split
  ·rename_i h; subst h; exact ⟨fun _ => Rat.le_refl, fun _ => by decide⟩
  ·rename_i h1 h2
   refine ⟨fun h => absurd h (by decide), fun h => ?_⟩
   rcases Rat.le_iff_lt_or_eq.1 h with g | g
   ·exact absurd g h1
   ·exact absurd g h2
theorem wO {x y : Rat} : cmpQ x y < 0 ↔ x < y := by
 unfold cmpQ; split
 ·rename_i h; exact ⟨fun _ => h, fun _ => by decide⟩
 ·rename_i h; split
  ·exact ⟨fun h => absurd h (by decide), fun g => absurd g h⟩
  ·exact ⟨fun h => absurd h (by decide), fun g => absurd g h⟩
theorem Qi {x : Rat} : 0 < x.num ↔ 0 < x := by
 refine ⟨fun h => Rat.lt_of_le_of_ne (Rat.num_nonneg.1 (by omega)) (fun e => by subst e; exact absurd h (by decide)), fun h => ?_⟩
 have h1 := Rat.num_nonneg.2 (Rat.le_of_lt h)
 have h2 : x.num ≠ 0 := fun e => absurd (Rat.num_eq_zero.1 e) (Ne.symm (Rat.ne_of_lt h))
 omega
theorem V7 {x : Rat} : 0 < sgnQ x ↔ 0 < x := by
 rw [← Qi]; unfold sgnQ; split
 ·exact ⟨fun h => absurd h (by decide), fun h => by omega⟩
 ·split
  ·exact ⟨fun h => absurd h (by decide), fun h => by omega⟩
  ·exact ⟨fun _ => by omega, fun _ => by decide⟩
section
variable (a b c m : V3) (w t : Rat)
end
end
section
section
variable {a b c m : V3} {w t : Rat}
end
end
section
def fidx (p : Nat → Bool) : Nat → Nat → Int
 | _, 0 => -1
 | i, k + 1 => if p i = true then (i : Int) else fidx p (i + 1) k
theorem I8 (p : Nat → Bool) : ∀ (k i : Nat), -1 ≤ fidx p i k ∧ fidx p i k ≤ i + k
 | 0, i => by rw [fidx]; omega
 | k + 1, i => by
  have := I8 p k (i + 1)
  rw [fidx]; split <;> omega
theorem K1 {p : Nat → Bool} {i n : Nat} (h : fidx p i (n - i) = fidx p 0 n) (hi : i < n) (hp : ¬ p i = true) : fidx p (i + 1) (n - (i + 1)) = fidx p 0 n := by
 rw [show n - i = (n - (i + 1)) + 1 by omega, fidx, if_neg hp] at h; exact h
theorem Ia {p : Nat → Bool} {i n : Nat} (h : fidx p i (n - i) = fidx p 0 n) (hi : i < n) (hp : p i = true) : (i : Int) = fidx p 0 n := by
 rw [show n - i = (n - (i + 1)) + 1 by omega, fidx, if_pos hp] at h; exact h
theorem I9 {p : Nat → Bool} {i n : Nat} (h : fidx p i (n - i) = fidx p 0 n) (hi : ¬ i < n) : -1 = fidx p 0 n := by
 rw [show n - i = 0 by omega, fidx] at h; exact h
theorem Dm {p : Nat → Bool} : ∀ {k i : Nat}, 0 ≤ fidx p i k ↔ ∃ j, i ≤ j ∧ j < i + k ∧ p j = true
 | 0, i => by rw [fidx]; exact ⟨fun h => absurd h (by decide), fun ⟨j, h1, h2, _⟩ => by omega⟩
 | k + 1, i => by
  rw [fidx]; split
  ·rename_i h; exact ⟨fun _ => ⟨i, Nat.le_refl _, by omega, h⟩, fun _ => by omega⟩
  ·rename_i h
   rw [Dm]
   constructor
   ·rintro ⟨j, h1, h2, h3⟩; exact ⟨j, by omega, by omega, h3⟩
   ·rintro ⟨j, h1, h2, h3⟩
    rcases Nat.eq_or_lt_of_le h1 with e | e
    ·subst e; exact absurd h3 h
    ·exact ⟨j, e, by omega, h3⟩
def unqN {α : Type} (d : α) (e : α → α → Bool) (l : List α) : Nat → List α
 | 0 => []
 | n + 1 => if n = 0 ∨ ¬ e (l.getD n d) (l.getD (n - 1) d) = true then unqN d e l n ++ [l.getD n d] else unqN d e l n
section
variable {α : Type} {d : α} {e : α → α → Bool} {l : List α}
structure CmO (d : α) (e : α → α → Bool) (l : List α) (i : Nat) : Prop where
 h : unqN d e l i = l.take i
 h1 : 1 ≤ i
 hl : i ≤ l.length
theorem CmO.start (h : 2 ≤ l.length) : CmO d e l 1 := by
 refine ⟨?_, Nat.le_refl 1, by omega⟩
 rw [unqN, if_pos (.inl rfl), unqN, vC (d := d) (by omega)]; simp
theorem CmO.step {i : Nat} (h : CmO d e l i) (hi : i < l.length) (hp : ¬ e (l.getD i d) (l.getD (i - 1) d) = true) : CmO d e l (i + 1) :=
 ⟨by rw [unqN, if_pos (.inr hp), h.h, vC (d := d) hi], by omega, by omega⟩
theorem CmO.fin {i : Nat} (h : CmO d e l i) (hi : ¬ i < l.length) : unqN d e l l.length = l := by
 have := h.h
 have e1 : i = l.length := by have := h.hl; omega
 rw [e1, List.take_length] at this; exact this
structure CmI (d : α) (e : α → α → Bool) (l m : List α) (k i : Nat) : Prop where
 hl : m.length = l.length
 hk : k + 1 ≤ i
 hi : i ≤ l.length
 ht : m.take k = unqN d e l i
 hd : ∀ j, i ≤ j + 1 → m.getD j d = l.getD j d
theorem CmI.start {i : Nat} (h : CmO d e l i) (hi : i < l.length) (hp : e (l.getD i d) (l.getD (i - 1) d) = true) : CmI d e l l i (i + 1) :=
 ⟨rfl, Nat.le_refl _, hi, by rw [unqN, if_neg (by rintro (h2 | h2); exact absurd h.h1 (by omega); exact h2 hp), h.h], fun _ _ => rfl⟩
theorem V4 {m : List α} {k j : Nat} {v : α} (h : k ≠ j) : (m.set k v).getD j d = m.getD j d := by
 rw [List.getD_eq_getElem?_getD, List.getElem?_set_ne h, ← List.getD_eq_getElem?_getD]
theorem CmI.go {m : List α} {k i : Nat} (h : CmI d e l m k i) (hi : i < l.length) (hp : ¬ e (m.getD i d) (m.getD (i - 1) d) = true) : CmI d e l (m.set k (m.getD i d)) (k + 1) (i + 1) := by
 have hk := h.hk
 have e1 := h.hd i (by omega)
 have e2 := h.hd (i - 1) (by omega)
 rw [e1, e2] at hp
 refine ⟨by rw [List.length_set, h.hl], by omega, by omega, ?_, fun j hj => ?_⟩
 ·rw [Ei (by rw [h.hl]; omega), h.ht, unqN, if_pos (.inr hp), e1]
 ·rw [V4 (by omega)]; exact h.hd j (by omega)
theorem CmI.stay {m : List α} {k i : Nat} (h : CmI d e l m k i) (hi : i < l.length) (hp : e (m.getD i d) (m.getD (i - 1) d) = true) : CmI d e l m k (i + 1) := by
 have hk := h.hk
 rw [h.hd i (by omega), h.hd (i - 1) (by omega)] at hp
 exact ⟨h.hl, by omega, by omega, by rw [h.ht, unqN, if_neg (by rintro (h2 | h2); omega; exact h2 hp)], fun j hj => h.hd j (by omega)⟩
theorem CmI.fin {m : List α} {k i : Nat} (h : CmI d e l m k i) (hi : i = l.length) : m.take k = unqN d e l l.length ∧ k = (unqN d e l l.length).length ∧ k < l.length := by
 have hk := h.hk
 subst hi
 have ht := h.ht
 refine ⟨ht, ?_, by omega⟩
 rw [← ht, List.length_take, h.hl]; omega
end
section
variable {α : Type} {d : α} {e : α → α → Bool} {l : List α}
def unqD (d : α) (e : α → α → Bool) (l : List α) : List α := unqN d e l l.length
def unqF (d : α) (e : α → α → Bool) (l : List α) : List α := unqD d e l ++ List.replicate (l.length - (unqD d e l).length) d
theorem CmO.all {i : Nat} (h : CmO d e l i) (hi : ¬ i < l.length) : unqD d e l = l := h.fin hi
theorem CmI.all {t : Ty} {e : t.den → t.den → Bool} {l m : List t.den} {k i n : Nat} (h : CmI t.dft e l m k i) (hi : i = l.length) (hn : n = l.length) : clrL t m k (n - k) = unqF t.dft e l ∧ k = (unqD t.dft e l).length := by
 obtain ⟨h1, h2, h3⟩ := h.fin hi
 refine ⟨?_, h2⟩
 unfold clrL unqF unqD
 have hl := h.hl
 rw [h1, List.drop_of_length_le (by omega), List.append_nil, hn, ← h2]
end
section
variable {α : Type} (d : α) (c : α → α → Int)
def posR (x : α) (p : List α) : Nat → Nat
 | 0 => 0
 | j + 1 => if c x (p.getD j d) < 0 then posR x p j else j + 1
theorem Ko (x : α) (p : List α) : ∀ j, posR d c x p j ≤ j
 | 0 => Nat.le_refl 0
 | j + 1 => by
  unfold posR; split
  ·exact Nat.le_succ_of_le (Ko x p j)
  ·exact Nat.le_refl _
def insR (x : α) (p : List α) : List α := p.take (posR d c x p p.length) ++ x :: p.drop (posR d c x p p.length)
theorem PT (x : α) (p : List α) : (insR d c x p).length = p.length + 1 := by
 have := Ko d c x p p.length
 unfold insR; simp only [List.length_append, List.length_take, List.length_cons, List.length_drop]; omega
def vT (l : List α) : Nat → List α
 | 0 => []
 | i + 1 => insR d c (l.getD i d) (vT l i)
theorem zp (l : List α) : ∀ i, (vT d c l i).length = i
 | 0 => rfl
 | i + 1 => by rw [vT, PT, zp l i]
def q0y (l : List α) : List α := vT d c l l.length
structure SoO (l m : List α) (i : Nat) : Prop where
 h : m = vT d c l i ++ l.drop i
 hi : i ≤ l.length
structure SoI (l m : List α) (i j : Nat) : Prop where
 h : m = ((vT d c l i).take j ++ l.getD i d :: (vT d c l i).drop j) ++ l.drop (i + 1)
 hi : i < l.length
 hj : j ≤ i
 hp : posR d c (l.getD i d) (vT d c l i) j = posR d c (l.getD i d) (vT d c l i) i
variable {d c} {l m : List α} {i j : Nat}
theorem SoO.start (h : 1 ≤ l.length) : SoO d c l l 1 := by
 refine ⟨?_, h⟩
 match l, h with
 | x :: r, _ => rfl
theorem SoO.inner (h : SoO d c l m i) (hi : i < l.length) : SoI d c l m i i := by
 have hl := zp d c l i
 refine ⟨?_, hi, Nat.le_refl _, rfl⟩
 have e1 : (vT d c l i).take i = vT d c l i := List.take_of_length_le (by omega)
 have e2 : (vT d c l i).drop i = [] := List.drop_of_length_le (by omega)
 rw [h.h, e1, e2, List.append_assoc, List.drop_eq_getElem_cons hi, j1 hi]; rfl
theorem SoI.len (h : SoI d c l m i j) : m.length = l.length := by
 have hl := zp d c l i; have h1 := h.hi; have h2 := h.hj
 rw [h.h]; simp only [List.length_append, List.length_take, List.length_cons, List.length_drop]; omega
theorem SoO.len (h : SoO d c l m i) : m.length = l.length := by
 have hl := zp d c l i; have h1 := h.hi
 rw [h.h]; simp only [List.length_append, List.length_drop]; omega
theorem SoI.at_ (h : SoI d c l m i j) : m.getD j d = l.getD i d := by
 have hl := zp d c l i; have h2 := h.hj
 rw [h.h, List.getD_eq_getElem?_getD, List.getElem?_append_left (by simp only [List.length_append, List.length_take, List.length_cons]; omega), List.getElem?_append_right (by simp only [List.length_take]; omega)]
 simp only [List.length_take, show j - min j (vT d c l i).length = 0 by omega]; rfl
theorem SoI.pred (h : SoI d c l m i j) (h0 : 0 < j) : m.getD (j - 1) d = (vT d c l i).getD (j - 1) d := by
 have hl := zp d c l i; have h2 := h.hj
 rw [h.h, List.getD_eq_getElem?_getD, List.getElem?_append_left (by simp only [List.length_append, List.length_take, List.length_cons]; omega), List.getElem?_append_left (by simp only [List.length_take]; omega), List.getElem?_take_of_lt (by omega), ← List.getD_eq_getElem?_getD]
theorem SoI.step (h : SoI d c l m i j) (h0 : 0 < j) (hc : c (m.getD j d) (m.getD (j - 1) d) < 0) : SoI d c l ((m.set j (m.getD (j - 1) d)).set (j - 1) (m.getD j d)) i (j - 1) := by
 have hl := zp d c l i; have h2 := h.hj
 rw [h.at_, h.pred h0] at hc ⊢
 obtain ⟨k, rfl⟩ : ∃ k, j = k + 1 := ⟨j - 1, by omega⟩
 rw [show k + 1 - 1 = k by omega] at hc ⊢
 refine ⟨?_, h.hi, by omega, ?_⟩
 ·rw [h.h]
  generalize hP : vT d c l i = P at *
  have hk : k < P.length := by omega
  have e1 : P.take (k + 1) = P.take k ++ [P.getD k d] := vC hk
  have e2 : P.drop k = P.getD k d :: P.drop (k + 1) := by rw [j1 hk]; exact List.drop_eq_getElem_cons hk
  have e3 : (P.take k).length = k := by rw [List.length_take]; omega
  rw [e1, e2]
  generalize P.take k = A at *; generalize P.getD k d = y at *; generalize l.getD i d = x at *; generalize P.drop (k + 1) = B at *
  subst e3
  have s1 : ∀ (u v w : α) (R : List α), (A ++ u :: v :: R).set (A.length + 1) w = A ++ u :: w :: R := by
   intro u v w R; rw [List.set_append_right _ _ (by omega)]; simp
  have s2 : ∀ (u w : α) (R : List α), (A ++ u :: R).set A.length w = A ++ w :: R := by
   intro u w R; rw [List.set_append_right _ _ (by omega)]; simp
  simp only [List.append_assoc, List.cons_append, List.nil_append, s1, s2]
 ·have e := h.hp
  rw [← e, posR, if_pos hc]
theorem SoO.fin (h : SoO d c l m i) (hi : ¬ i < l.length) : m = q0y d c l := by
 have := h.hi
 have e : i = l.length := by omega
 rw [h.h, e, List.drop_length, List.append_nil]; rfl
end
end
theorem OB {x : Rat} (h : (limbs x.num.natAbs).length = 0) : (denL x.den).length = 0 := Nat.eq_zero_of_not_pos fun h2 => Er h h2
theorem Mx {d : Nat} (h : ¬ (denL d).length = 0) : denL d = limbs d := w7 h
theorem Mn (x : Rat) : bl (Nat.gcd x.num.natAbs x.den) = 1 := by rw [BF]; decide +kernel
theorem El {k : List Rat} : ∀ {n : Nat}, srtN k n = true ↔ ∀ j, 1 ≤ j → j < n → ¬ cmpQ (k.getD j 0) (k.getD (j - 1) 0) < 0
 | 0 => ⟨fun _ j _ h => by omega, fun _ => rfl⟩
 | n + 1 => by
  rw [srtN, Bool.and_eq_true, El, Bool.or_eq_true, decide_eq_true_eq, decide_eq_true_eq]
  constructor
  ·rintro ⟨h1, h2⟩ j hj hjn
   rcases Nat.lt_or_ge j n with h | h
   ·exact h1 j hj h
   ·have : j = n := by omega
    subst this
    exact h2.resolve_left (by omega)
  ·intro h
   refine ⟨fun j hj hjn => h j hj (by omega), ?_⟩
   by_cases e : n = 0
   ·exact .inl e
   ·exact .inr (h n (by omega) (by omega))
def SrtI (k : List Rat) (i : Nat) : Prop := ∀ j, i < j → j < k.length → ¬ cmpQ (k.getD j 0) (k.getD (j - 1) 0) < 0
theorem SrtI.start (k : List Rat) : SrtI k (k.length - 1) := fun j h h2 => by omega
theorem SrtI.step {k : List Rat} {i : Nat} (h : SrtI k i) (hp : ¬ cmpQ (k.getD i 0) (k.getD (i - 1) 0) < 0) : SrtI k (i - 1) := fun j h1 h2 => by
 rcases Nat.eq_or_lt_of_le (show i ≤ j by omega) with e | e
 ·subst e; exact hp
 ·exact h j e h2
theorem SrtI.fin {k : List Rat} {i : Nat} (h : SrtI k i) (hi : ¬ 0 < i) : srtN k k.length = true := El.2 fun j h1 h2 => h j (by omega) h2
theorem Eo (k : List Rat) : ∀ n, unqN 0 (fun x y => decide (x = y)) k n = dstN k n
 | 0 => rfl
 | n + 1 => by
  rw [unqN, dstN, Eo k n]
  by_cases h : n = 0 ∨ k.getD n 0 ≠ k.getD (n - 1) 0
  ·rw [if_pos h, if_pos (h.imp id fun h => by simpa using h)]
  ·rw [if_neg h, if_neg (fun h2 => h (h2.imp id fun h => by simpa using h))]
abbrev U4 : FI := ⟨7, [(.sl (.int .i64))], [(.s 9223372036854775807 (.n 9223372036854775808))], fun _ => [], fun b z => (fun (l : List Int) => .c (.one (.dt .bool .u (decide (l.length ≤ 500))))) z⟩
theorem U5 : U4.OK Tryz.prog := mkF hmix 6 Tryz.func7 rfl rfl (by decide) [] (fun _ => rfl) (fun _ => rfl) (fun _ _ => rfl) (fun (l : List Int) b hx hp => q9 trivial rfl) (fun (l : List Int) hx hp => by
 exact ⟨.nil, kcast (by kernel_rfl) ((Eq.refl (decide (l.length ≤ 500))))⟩)
abbrev U3 : Ctr Tryz.prog := FI.c U5
abbrev WL : FI := ⟨12, [(.int .i64), (.int .i64)], [(.n 9223372036854775808), (.n 1099511627776)], fun z => (fun (a : Int) (m : Int) => [(0 : Int) < m]) z.1 z.2, fun b z => (fun (a : Int) (m : Int) => .c (.one (.dt (.int .i64) (.n (b1 b).nb) (a % m)))) z.1 z.2⟩
theorem WM : WL.OK Tryz.prog := mkF hmix 14 Tryz.func12 rfl rfl (by decide) [] (fun _ => rfl) (fun _ => rfl) (fun _ _ => rfl) (fun (a : Int) (m : Int) b hx hp => q9 (NA (hp _ List.mem_cons_self) (Bnds.h2 hx).2.int) rfl) (fun (a : Int) (m : Int) hx hp => by
 have hx0 : Int.natAbs a ≤ 9223372036854775808 := hx.1
 have hx1 : Int.natAbs m ≤ 1099511627776 := hx.2
 have hp0 : (0 : Int) < m := hp _ (List.mem_cons_self)
 exact ⟨.nil, kcast (by kernel_rfl) (I (by omega : m ≠ 0) (And.intro (fun (h1 : Int.tmod a m < 0) => (mod_a hp0 h1 : (Int.tmod a m) + m = a % m)) (fun (h2 : ¬ (Int.tmod a m < 0)) => (q0k hp0 h2 : Int.tmod a m = a % m))))⟩)
abbrev MB : Ctr Tryz.prog := FI.c WM
abbrev Tb : FO := ⟨9, [(.sl (.int .i64))], [(.s 1048576 (.n 9223372036854775808))], fun _ => [], fun k b z => .c (.one (.loc k 0)), fun b z => (fun (l : List Int) => .rig [.dt (.pr (.sl (.int .i64)) (.nat .i64)) (.p (b0 b) (.n 0)) ((l, 0))]) z⟩
theorem Tc : Tb.OK Tryz.prog := mkO hmix 6 5 Tryz.func9 rfl rfl (by decide) [] (fun _ => rfl) (fun _ _ _ => rfl) (fun _ _ => rfl) (fun _ _ _ => ⟨rfl, rfl⟩) (fun (l : List Int) k b hx hp => ⟨⟨trivial, rfl⟩, jC (show Bnd jp (.p (b0 b) (.n 0)) (l, 0) from ⟨Bnds.h1 hx, Nat.le_refl _⟩)⟩) (fun (l : List Int) hx hp => by
 exact bodyO.p (.nil) (kcast (by kernel_rfl) (And.intro (rfl : (l, 0) = (l, 0)) (rfl : 5 = 5))))
abbrev Ta : CtrO Tryz.prog := FO.c Tc
abbrev T1 : FB := ⟨18, (.pr (.sl (.int .i64)) (.nat .i64)), (.p (.s 1048576 (.n 9223372036854775808)) (.n 1048576)), [(.int .i64)], [(.n 1099511627776)], fun s z => (fun (m : Int) => [(0 : Int) < m]) z, fun tb b s z => (fun (m : Int) => .c (.one (.dt (.int .i64) (.n (b0 b).nb) (q8 s m)))) z, fun s z => q6 s, fun tb b => .p tb.l (.n (max tb.r.nb tb.l.len))⟩
theorem T2 : T1.OK Tryz.prog := mkB' hmix 35 Tryz.func18 rfl rfl (by decide) [(12, .c MB)] (fun _ => rfl) (fun _ _ => rfl) (fun _ _ _ _ => rfl) (fun (s : List Int × Nat) (m : Int) tb b hs hx hp => ⟨q9 (Ue (hp _ List.mem_cons_self) (Bnds.h1 hx).int) rfl, Ac hs⟩) (fun (s : List Int × Nat) (m : Int) hs hx hp => by
 have hx0 : Int.natAbs m ≤ 1099511627776 := hx
 have hp0 : (0 : Int) < m := hp _ (List.mem_cons_self)
 have hsl : s.1.length ≤ 1048576 := hs.1.1
 exact ⟨.cond (.nil) (.h 4 9 (.ix s.2) (.nil)), kcast (by kernel_rfl) (And.intro (fun (h1 : s.1.length ≤ s.2) => And.intro ((if_pos h1).symm : s = q6 s) (((if_pos h1).symm : 0 = q8 s m))) (fun (h2 : ¬ (s.1.length ≤ s.2)) => I (by omega : ((s.2 + 1 : Nat) : Int) - 1 = ((s.2 : Nat) : Int)) (I (by omega : s.2 < s.1.length) (I (hp0 : (0 : Int) < m) (And.intro ((if_neg h2).symm : (s.1, s.2 + 1) = q6 s) (((if_neg h2).symm : (s.1.getD s.2 0) % m = q8 s m)))))))⟩)
abbrev Bf : CtrB Tryz.prog := FB.c T2
abbrev SY : FB := ⟨36, (.pr (.sl (.int .i64)) (.nat .i64)), (.p (.s 1048576 (.n 9223372036854775808)) (.n 1048576)), [(.int .i64)], [(.n 1099511627776)], fun s z => (fun (m : Int) => [(0 : Int) < m]) z, fun tb b s z => (fun (m : Int) => .c (.one (.dt .bool .u (decide (q8 s m = m - 1))))) z, fun s z => q6 s, fun tb b => .p tb.l (.n (max tb.r.nb tb.l.len))⟩
theorem SZ : SY.OK Tryz.prog := mkB' hmix 11 Tryz.func36 rfl rfl (by decide) [(18, .b Bf)] (fun _ => rfl) (fun _ _ => rfl) (fun _ _ _ _ => rfl) (fun (s : List Int × Nat) (m : Int) tb b hs hx hp => ⟨q9 trivial rfl, Ac hs⟩) (fun (s : List Int × Nat) (m : Int) hs hx hp => by
 have hp0 : (0 : Int) < m := hp _ (List.mem_cons_self)
 exact ⟨.nil, kcast (by kernel_rfl) (I (hp0 : (0 : Int) < m) (And.intro (Eq.refl (q6 s)) ((Eq.refl (decide (q8 s m = m - 1))))))⟩)
abbrev SX : CtrB Tryz.prog := FB.c SZ
abbrev YG : FI := ⟨152, [(.sl (.nat .u32))], [(.s 1099511627776 (.n 4294967295))], fun z => (fun (ls : List Nat) => [∀ u ∈ ls, u < 4294967296]) z, fun b z => (fun (ls : List Nat) => .c (.one (.dt .mag (.n (32 * (b0 b).len)) (valL ls)))) z⟩
theorem Ov : YG.OK Tryz.prog := mkF hmix 21 Tryz.func152 rfl rfl (by decide) [] (fun _ => rfl) (fun _ => rfl) (fun _ _ => rfl) (fun (ls : List Nat) b hx hp => q9 (C9 (hp _ (List.mem_cons_self)) (Bnds.h1 hx).sl.1) rfl) (fun (ls : List Nat) hx hp => by
 have hl0 : ls.length ≤ 1099511627776 := hx.1
 have hp0 : ∀ u ∈ ls, u < 4294967296 := hp _ (List.mem_cons_self)
 exact ⟨.loop [.s 3 (.nat .i64) (.n 1099511627776)] (fun (k : Nat) => k ≤ ls.length ∧ valL (ls.take k) = valL ls) (fun (k : Nat) => k) (fun (k : Nat) => .cond (.h 2 5 (.i .sub) (.cond (.h 3 1 (.i .sub) (.nil)) (.h 4 2 (.mag (valL ls) 70368744177664) (.nil)))) (.h 4 2 (.mag (valL ls) 70368744177664) (.nil))), kcast (by kernel_rfl) (I (⟨Nat.le_refl _, by rw [List.take_length]⟩ : ls.length ≤ ls.length ∧ valL (ls.take ls.length) = valL ls) (fun (k : Nat) (hb1 : HB [.s 3 (.nat .i64) (.n 1099511627776)] k) (hC : k ≤ ls.length ∧ valL (ls.take k) = valL ls) => have hv6 := (show k ≤ 1099511627776 from hb1); have hk := hC.1; And.intro (fun (h2 : 0 < k) => I (by omega : 1 ≤ k) (I (by omega : k - 1 < ls.length) (And.intro (fun (h3 : ls.getD (k - 1) 0 = 0) => I (by omega : 1 ≤ k) (And.intro (⟨by omega, D8 hC.1 (by omega) hC.2 (by omega)⟩ : k - 1 ≤ ls.length ∧ valL (ls.take (k - 1)) = valL ls) (by omega : k - 1 < k))) (fun (h4 : ¬ (ls.getD (k - 1) 0 = 0)) => I (by omega : k ≤ ls.length) (I (zq hp0 hC.1 hC.2 (by omega) : ls.take k = limbs (valL ls)) (I (q7 (by decide) (C9 hp0 hl0) : lt2 (valL ls) 70368744177664) ((Eq.refl (valL ls))))))))) (fun (h5 : ¬ (0 < k)) => I (by omega : k ≤ ls.length) (I (zq hp0 hC.1 hC.2 (by omega) : ls.take k = limbs (valL ls)) (I (q7 (by decide) (C9 hp0 hl0) : lt2 (valL ls) 70368744177664) ((Eq.refl (valL ls))))))))⟩)
abbrev wW : Ctr Tryz.prog := FI.c Ov
abbrev Ou (b : List Bd) (ls : List Nat) : WV := .c (.one (.dt .mag (.n (32 * (b0 b).len)) (valL ls)))
theorem Rl (ls : List Nat) (hx : Bnds [(.sl (.nat .u32))] [(.s 1099511627776 (.n 4294967295))] ls) (hp : ∀ c0 ∈ ([∀ u ∈ ls, u < 4294967296] : List Prop), c0) : Sig Tryz.prog 152 (argsE [(.sl (.nat .u32))] ls) (Ou [(.s 1099511627776 (.n 4294967295))] ls).exp := Ov.sig ls hx hp
theorem Rk (b : List Bd) (x : Nat) (hx : Bnds [.mag] b x) (hp : ∀ p ∈ ([] : List Prop), p) : (WV.c (.one (.dt .mag (b0 b) x))).ok := q9 (Bnds.h1 hx) rfl
theorem Ot (x : Nat) (hx : Bnds [.mag] [.n 1099511627776] x) (hp : ∀ p ∈ ([] : List Prop), p) : Sig Tryz.prog 152 (argsE [.mag] x) (WV.c (.one (.dt .mag (.n 1099511627776) x))).exp := by
 have h := Rl (limbs x) ⟨Nat.le_trans (qc (Nat.le_of_lt hx)) (by decide), (Bnd.limbs hx).2⟩ (by intro p hp; simp only [List.mem_cons, List.not_mem_nil, or_false] at hp; subst hp; exact qH x)
 unfold Ou at h; rw [qn, ← Az] at h; exact h
def w5 : Ctr Tryz.prog := ⟨152, [.mag], [.n 1099511627776], fun z => [], fun b z => .c (.one (.dt .mag (b0 b) z)), fun z hx hp => Ot z hx hp, fun _ _ => rfl, fun b z hx hp => Rk b z hx hp⟩
abbrev Zi : FI := ⟨150, [.mag, .mag], [(.n 1099511627776), (.n 1099511627776)], fun _ => [], fun b z => (fun (x : Nat) (y : Nat) => .c (.one (.dt .mag (.n (max (b0 b).nb (b1 b).nb + 1)) (x + y)))) z.1 z.2⟩
theorem RY : Zi.OK Tryz.prog := mkF hmix 58 Tryz.func150 rfl rfl (by decide) [] (fun _ => rfl) (fun _ => rfl) (fun _ _ => rfl) (fun (x : Nat) (y : Nat) b hx hp => q9 (Bl (Bnds.h2 hx).1.mag (Bnds.h2 hx).2.mag) rfl) (fun (x : Nat) (y : Nat) hx hp => by
 have hx0 : lt2 x 1099511627776 := hx.1
 have hl0 : (limbs x).length ≤ 34359738369 := qc (Nat.le_of_lt hx0)
 have hx1 : lt2 y 1099511627776 := hx.2
 have hl1 : (limbs y).length ≤ 34359738369 := qc (Nat.le_of_lt hx1)
 exact ⟨.cond (.h 3 3 (.mk (.arr (.nat .u32) (.n 4294967295))) (.loop [.s 22 (.nat .i64) (.n 34359738369), .s 6 (.nat .u64) (.n 1), .a 19 (.nat .u32) (.n 4294967295)] (fun ((i, c, out) : Nat × Nat × List Nat) => AddI y x i c out) (fun ((i, c, out) : Nat × Nat × List Nat) => (limbs y).length - i) (fun ((i, c, out) : Nat × Nat × List Nat) => .cond (.nil) (.pre 15 (.frz 19 true [5]) (.h 15 1 (.c wW) (.nil)))))) (.h 3 3 (.mk (.arr (.nat .u32) (.n 4294967295))) (.loop [.s 22 (.nat .i64) (.n 34359738369), .s 6 (.nat .u64) (.n 1), .a 19 (.nat .u32) (.n 4294967295)] (fun ((i, c, out) : Nat × Nat × List Nat) => AddI x y i c out) (fun ((i, c, out) : Nat × Nat × List Nat) => (limbs x).length - i) (fun ((i, c, out) : Nat × Nat × List Nat) => .cond (.nil) (.pre 15 (.frz 19 true [5]) (.h 15 1 (.c wW) (.nil)))))), kcast (by kernel_rfl) (And.intro (fun (h1 : (limbs x).length < (limbs y).length) => I (by omega : ((limbs y).length) + 1 = ((limbs y).length) + 1) (I (AddI.start y x : AddI y x 0 0 (List.replicate (((limbs y).length) + 1) (0 : Nat))) (fun (i : Nat) (c : Nat) (out : List Nat) (hb2 : HB [.s 22 (.nat .i64) (.n 34359738369), .s 6 (.nat .u64) (.n 1), .a 19 (.nat .u32) (.n 4294967295)] (i, c, out)) (hI : AddI y x i c out) => have hv7 := (show i ≤ 34359738369 from hb2.1); have hv8 := (show c ≤ 1 from hb2.2.1); have hv9 := (show ∀ u ∈ out, u ≤ 4294967295 from hb2.2.2); have hIl := hI.hl; have hIi := hI.hi; have hIc := hI.hc; And.intro (fun (h3 : i < (limbs y).length) => I (by omega : i < (limbs y).length) (And.intro (fun (h4 : i < (limbs x).length) => I (by omega : i < (limbs x).length) (I (by omega : i < ((limbs y).length) + 1) (I (by omega : i < out.length) (I (show (i + 1) ≤ 34359738369 by omega : Bnd (.nat .i64) (.n 34359738369) (i + 1)) (And.intro (hI.step (by omega) (by first | rfl | rw [qp (l := limbs x) (by omega), Nat.add_zero]) : AddI y x (i + 1) (((c + ((limbs y).getD i 0)) + ((limbs x).getD i 0)) / 2 ^ 32) (out.set i (((c + ((limbs y).getD i 0)) + ((limbs x).getD i 0)) % 4294967296))) (by omega : (limbs y).length - (i + 1) < (limbs y).length - i)))))) (fun (h5 : ¬ (i < (limbs x).length)) => I (by omega : i < ((limbs y).length) + 1) (I (by omega : i < out.length) (I (show (i + 1) ≤ 34359738369 by omega : Bnd (.nat .i64) (.n 34359738369) (i + 1)) (And.intro (hI.step (by omega) (by first | rfl | rw [qp (l := limbs x) (by omega), Nat.add_zero]) : AddI y x (i + 1) ((c + ((limbs y).getD i 0)) / 2 ^ 32) (out.set i ((c + ((limbs y).getD i 0)) % 4294967296))) (by omega : (limbs y).length - (i + 1) < (limbs y).length - i))))))) (fun (h6 : ¬ (i < (limbs y).length)) => have hF := hI.fin' (by omega) (by omega); I (by omega : (limbs y).length < ((limbs y).length) + 1) (I (by omega : (limbs y).length < out.length) (I (ES (by omega) : ((limbs y).length) + 1 = (out.set ((limbs y).length) c).length) (I (hF.2 : ∀ u ∈ out.set ((limbs y).length) c, u < 4294967296) ((by rw [hF.1] <;> omega : valL (out.set ((limbs y).length) c) = x + y))))))))) (fun (h10 : ¬ ((limbs x).length < (limbs y).length)) => I (by omega : ((limbs x).length) + 1 = ((limbs x).length) + 1) (I (AddI.start x y : AddI x y 0 0 (List.replicate (((limbs x).length) + 1) (0 : Nat))) (fun (i : Nat) (c : Nat) (out : List Nat) (hb11 : HB [.s 22 (.nat .i64) (.n 34359738369), .s 6 (.nat .u64) (.n 1), .a 19 (.nat .u32) (.n 4294967295)] (i, c, out)) (hI : AddI x y i c out) => have hv16 := (show i ≤ 34359738369 from hb11.1); have hv17 := (show c ≤ 1 from hb11.2.1); have hv18 := (show ∀ u ∈ out, u ≤ 4294967295 from hb11.2.2); have hIl := hI.hl; have hIi := hI.hi; have hIc := hI.hc; And.intro (fun (h12 : i < (limbs x).length) => I (by omega : i < (limbs x).length) (And.intro (fun (h13 : i < (limbs y).length) => I (by omega : i < (limbs y).length) (I (by omega : i < ((limbs x).length) + 1) (I (by omega : i < out.length) (I (show (i + 1) ≤ 34359738369 by omega : Bnd (.nat .i64) (.n 34359738369) (i + 1)) (And.intro (hI.step (by omega) (by first | rfl | rw [qp (l := limbs y) (by omega), Nat.add_zero]) : AddI x y (i + 1) (((c + ((limbs x).getD i 0)) + ((limbs y).getD i 0)) / 2 ^ 32) (out.set i (((c + ((limbs x).getD i 0)) + ((limbs y).getD i 0)) % 4294967296))) (by omega : (limbs x).length - (i + 1) < (limbs x).length - i)))))) (fun (h14 : ¬ (i < (limbs y).length)) => I (by omega : i < ((limbs x).length) + 1) (I (by omega : i < out.length) (I (show (i + 1) ≤ 34359738369 by omega : Bnd (.nat .i64) (.n 34359738369) (i + 1)) (And.intro (hI.step (by omega) (by first | rfl | rw [qp (l := limbs y) (by omega), Nat.add_zero]) : AddI x y (i + 1) ((c + ((limbs x).getD i 0)) / 2 ^ 32) (out.set i ((c + ((limbs x).getD i 0)) % 4294967296))) (by omega : (limbs x).length - (i + 1) < (limbs x).length - i))))))) (fun (h15 : ¬ (i < (limbs x).length)) => have hF := hI.fin' (by omega) (by omega); I (by omega : (limbs x).length < ((limbs x).length) + 1) (I (by omega : (limbs x).length < out.length) (I (ES (by omega) : ((limbs x).length) + 1 = (out.set ((limbs x).length) c).length) (I (hF.2 : ∀ u ∈ out.set ((limbs x).length) c, u < 4294967296) ((by rw [hF.1] <;> omega : valL (out.set ((limbs x).length) c) = x + y))))))))))⟩)
abbrev add_c : Ctr Tryz.prog := FI.c RY
abbrev RX (b : List Bd) (x : Nat) (y : Nat) : WV := .c (.one (.dt .mag (.n (max (b0 b).nb (b1 b).nb + 1)) (x + y)))
theorem St (x : Nat) (y : Nat) (hx : Bnds [.mag, .mag] [(.n 1099511627776), (.n 1099511627776)] (x, y)) (hp : ∀ c0 ∈ ([] : List Prop), c0) : Sig Tryz.prog 150 (argsE [.mag, .mag] (x, y)) (RX [(.n 1099511627776), (.n 1099511627776)] x y).exp := RY.sig (x, y) hx hp
abbrev mul_i : FI := ⟨97, [.mag, .mag], [(.n 1099511627776), (.n 1099511627776)], fun _ => [], fun b z => (fun (x : Nat) (y : Nat) => .c (.one (.dt .mag (.n ((b0 b).nb + (b1 b).nb)) (x * y)))) z.1 z.2⟩
theorem q0l : mul_i.OK Tryz.prog := mkF hmix 69 Tryz.func97 rfl rfl (by decide) [] (fun _ => rfl) (fun _ => rfl) (fun _ _ => rfl) (fun (x : Nat) (y : Nat) b hx hp => q9 (Dt (Bnds.h2 hx).1.mag (Bnds.h2 hx).2.mag) rfl) (fun (x : Nat) (y : Nat) hx hp => by
 have hx0 : lt2 x 1099511627776 := hx.1
 have hl0 : (limbs x).length ≤ 34359738369 := qc (Nat.le_of_lt hx0)
 have hx1 : lt2 y 1099511627776 := hx.2
 have hl1 : (limbs y).length ≤ 34359738369 := qc (Nat.le_of_lt hx1)
 exact ⟨.h 1 5 (.mk (.arr (.nat .u32) (.n 4294967295))) (.loop [.s 19 (.nat .i64) (.n 34359738369), .a 16 (.nat .u32) (.n 4294967295)] (fun ((i, out) : Nat × List Nat) => MulI x y i out) (fun ((i, out) : Nat × List Nat) => (limbs x).length - i) (fun ((i, out) : Nat × List Nat) => .cond (.cond (.nil) (.loop [.s 28 (.nat .i64) (.n 34359738369), .s 8 (.nat .u64) (.n 4294967295), .a 16 (.nat .u32) (.n 4294967295)] (fun ((j, c, out2) : Nat × Nat × List Nat) => MulJ x y i ((limbs x).getD i 0) j c out out2) (fun ((j, c, out2) : Nat × Nat × List Nat) => (limbs y).length - j) (fun ((j, c, out2) : Nat × Nat × List Nat) => .nil))) (.pre 16 (.frz 16 true [5]) (.h 16 1 (.c wW) (.nil))))), kcast (by kernel_rfl) (I (by omega : ((limbs x).length) + ((limbs y).length) = ((limbs x).length) + ((limbs y).length)) (I (MulI.start x y : MulI x y 0 (List.replicate (((limbs x).length) + ((limbs y).length)) (0 : Nat))) (fun (i : Nat) (out : List Nat) (hb1 : HB [.s 19 (.nat .i64) (.n 34359738369), .a 16 (.nat .u32) (.n 4294967295)] (i, out)) (hM : MulI x y i out) => have hv12 := (show i ≤ 34359738369 from hb1.1); have hv13 := (show ∀ u ∈ out, u ≤ 4294967295 from hb1.2); have hMl := hM.hl; have hMi := hM.hi; And.intro (fun (h2 : i < (limbs x).length) => I (by omega : i < (limbs x).length) (And.intro (fun (h3 : (limbs x).getD i 0 = 0) => I (show (i + 1) ≤ 34359738369 by omega : Bnd (.nat .i64) (.n 34359738369) (i + 1)) (And.intro (hM.skip (by omega) (by omega) : MulI x y (i + 1) out) (by omega : (limbs x).length - (i + 1) < (limbs x).length - i))) (fun (h4 : ¬ ((limbs x).getD i 0 = 0)) => I (MulJ.start hM : MulJ x y i ((limbs x).getD i 0) 0 0 out out) (fun (j : Nat) (c : Nat) (out2 : List Nat) (hb5 : HB [.s 28 (.nat .i64) (.n 34359738369), .s 8 (.nat .u64) (.n 4294967295), .a 16 (.nat .u32) (.n 4294967295)] (j, c, out2)) (hJ : MulJ x y i ((limbs x).getD i 0) j c out out2) => have hv8 := (show j ≤ 34359738369 from hb5.1); have hv9 := (show c ≤ 4294967295 from hb5.2.1); have hv10 := (show ∀ u ∈ out2, u ≤ 4294967295 from hb5.2.2); have hJl := hJ.hl; have hJj := hJ.hj; have hJc := hJ.hc; And.intro (fun (h6 : j < (limbs y).length) => I (by omega : j < (limbs y).length) (I (by omega : i + j < ((limbs x).length) + ((limbs y).length)) (I (by omega : i + j < out2.length) (I (by omega : i + j < ((limbs x).length) + ((limbs y).length)) (I (by omega : i + j < out2.length) (I (show (j + 1) ≤ 34359738369 by omega : Bnd (.nat .i64) (.n 34359738369) (j + 1)) (And.intro ((hJ.step (by omega) (by omega) (qb x i) rfl).1 : MulJ x y i ((limbs x).getD i 0) (j + 1) ((c + ((((limbs x).getD i 0) * ((limbs y).getD j 0)) + (out2.getD (i + j) 0))) / 2 ^ 32) out (out2.set (i + j) ((c + ((((limbs x).getD i 0) * ((limbs y).getD j 0)) + (out2.getD (i + j) 0))) % 4294967296))) (by omega : (limbs y).length - (j + 1) < (limbs y).length - j)))))))) (fun (h7 : ¬ (j < (limbs y).length)) => I (by omega : i + ((limbs y).length) < ((limbs x).length) + ((limbs y).length)) (I (by omega : i + ((limbs y).length) < out2.length) (I (show (i + 1) ≤ 34359738369 by omega : Bnd (.nat .i64) (.n 34359738369) (i + 1)) (And.intro (MulJ.fin' hM (by omega) hJ (by omega) : MulI x y (i + 1) (out2.set (i + ((limbs y).length)) c)) (by omega : (limbs x).length - (i + 1) < (limbs x).length - i))))))))) (fun (h11 : ¬ (i < (limbs x).length)) => I (by omega : ((limbs x).length) + ((limbs y).length) = out.length) (have hF := hM.fin' (by omega); I (hF.2 : ∀ u ∈ out, u < 4294967296) ((hF.1 : valL out = x * y)))))))⟩)
abbrev mul_c : Ctr Tryz.prog := FI.c q0l
abbrev Zx : FI := ⟨193, [.mag, .mag], [(.n 1099511627776), (.n 1099511627776)], fun _ => [], fun b z => (fun (x : Nat) (y : Nat) => .c (.one (.dt (.int .i64) (.n 1) (cmpN x y)))) z.1 z.2⟩
theorem Zy : Zx.OK Tryz.prog := mkF hmix 45 Tryz.func193 rfl rfl (by decide) [(152, .c w5)] (fun _ => rfl) (fun _ => rfl) (fun _ _ => rfl) (fun (x : Nat) (y : Nat) b hx hp => q9 (JV x y) rfl) (fun (x : Nat) (y : Nat) hx hp => by
 have hx0 : lt2 x 1099511627776 := hx.1
 have hl0 : (limbs x).length ≤ 34359738369 := qc (Nat.le_of_lt hx0)
 have hx1 : lt2 y 1099511627776 := hx.2
 have hl1 : (limbs y).length ≤ 34359738369 := qc (Nat.le_of_lt hx1)
 exact ⟨.cond (.nil) (.loop [.s 5 (.int .i64) (.n 68719476736)] (fun (z : Int) => CmpI x y z) (fun (z : Int) => (z + 1).toNat) (fun (z : Int) => .cond (.h 9 2 (.ix z.toNat) (.h 9 6 (.ix z.toNat) (.cond (.h 10 2 (.ix z.toNat) (.h 10 6 (.ix z.toNat) (.nil))) (.nil)))) (.nil))), kcast (by kernel_rfl) (And.intro (fun (h1 : (limbs x).length ≠ (limbs y).length) => And.intro (fun (h2 : (limbs x).length < (limbs y).length) => (by first | exact (BS (by omega)).symm | exact ((hC.at (by omega) (by omega)).2.1 (by omega)).symm : (-1) = cmpN x y)) (fun (h3 : ¬ ((limbs x).length < (limbs y).length)) => (by first | exact (BT (by omega)).symm | exact ((hC.at (by omega) (by omega)).2.2 (by omega)).symm : 1 = cmpN x y))) (fun (h4 : ¬ ((limbs x).length ≠ (limbs y).length)) => I (CmpI.start (by omega) : CmpI x y ((((limbs x).length : Nat) : Int) - 1)) (fun (z : Int) (hb5 : HB [.s 5 (.int .i64) (.n 68719476736)] z) (hC : CmpI x y z) => have hv12 := (show Int.natAbs z ≤ 68719476736 from hb5); have hC0 := hC.h0; have hC1 := hC.h1; And.intro (fun (h6 : 0 ≤ z) => I (by omega : z = ((z.toNat : Nat) : Int)) (I (by omega : z.toNat < (limbs x).length) (I (by omega : z = ((z.toNat : Nat) : Int)) (I (by omega : z.toNat < (limbs y).length) (And.intro (fun (h7 : (limbs x).getD z.toNat 0 ≠ (limbs y).getD z.toNat 0) => I (by omega : z = ((z.toNat : Nat) : Int)) (I (by omega : z.toNat < (limbs x).length) (I (by omega : z = ((z.toNat : Nat) : Int)) (I (by omega : z.toNat < (limbs y).length) (And.intro (fun (h8 : (limbs x).getD z.toNat 0 < (limbs y).getD z.toNat 0) => (by first | exact (BS (by omega)).symm | exact ((hC.at (by omega) (by omega)).2.1 (by omega)).symm : (-1) = cmpN x y)) (fun (h9 : ¬ ((limbs x).getD z.toNat 0 < (limbs y).getD z.toNat 0)) => (by first | exact (BT (by omega)).symm | exact ((hC.at (by omega) (by omega)).2.2 (by omega)).symm : 1 = cmpN x y))))))) (fun (h10 : ¬ ((limbs x).getD z.toNat 0 ≠ (limbs y).getD z.toNat 0)) => I (show Int.natAbs (z - 1) ≤ 68719476736 by omega : Bnd (.int .i64) (.n 68719476736) (z - 1)) (And.intro ((hC.at (by omega) (by omega)).1 (by omega) : CmpI x y (z - 1)) (by omega : ((z - 1) + 1).toNat < (z + 1).toNat)))))))) (fun (h11 : ¬ (0 ≤ z)) => ((hC.fin (by omega)).symm : 0 = cmpN x y)))))⟩)
abbrev EL : Ctr Tryz.prog := FI.c Zy
abbrev q0A : FI := ⟨151, [.mag, .mag], [(.n 1099511627776), (.n 1099511627776)], fun _ => [], fun b z => (fun (x : Nat) (y : Nat) => .tup [.one (.dt .mag (b0 b) (x - y)), .one (.dt (.int .i64) (.n 7) (subC x y))]) z.1 z.2⟩
theorem q0B : q0A.OK Tryz.prog := mkF hmix 54 Tryz.func151 rfl rfl (by decide) [(152, .c w5), (193, .c EL)] (fun _ => rfl) (fun _ => rfl) (fun _ _ => rfl) (fun (x : Nat) (y : Nat) b hx hp => qd (q9 (Bnd.magLe (Bnds.h2 hx).1 (Nat.sub_le _ _)) rfl) (qd (q9 (Or x y) rfl) qR)) (fun (x : Nat) (y : Nat) hx hp => by
 have hx0 : lt2 x 1099511627776 := hx.1
 have hl0 : (limbs x).length ≤ 34359738369 := qc (Nat.le_of_lt hx0)
 have hx1 : lt2 y 1099511627776 := hx.2
 have hl1 : (limbs y).length ≤ 34359738369 := qc (Nat.le_of_lt hx1)
 exact ⟨.cond (.nil) (.h 4 2 (.mk (.arr (.nat .u32) (.n 4294967295))) (.loop [.s 23 (.nat .i64) (.n 34359738369), .s 7 (.nat .u64) (.n 1), .a 20 (.nat .u32) (.n 4294967295)] (fun ((i, c, out) : Nat × Nat × List Nat) => SubI x y i c out) (fun ((i, c, out) : Nat × Nat × List Nat) => (limbs x).length - i) (fun ((i, c, out) : Nat × Nat × List Nat) => .cond (.cond (.h 12 3 (.i (.n (dif ((limbs x).getD i 0) (c + ((limbs y).getD i 0))) 18446744073709551615)) (.nil)) (.h 12 3 (.i (.n (dif ((limbs x).getD i 0) c) 18446744073709551615)) (.nil))) (.pre 16 (.frz 20 true [6]) (.h 16 1 (.c wW) (.nil)))))), kcast (by kernel_rfl) (And.intro (fun (h1 : cmpN x y < 0) => And.intro (by have := j8.1 (show cmpN x y < 0 by assumption); omega : 0 = x - y) ((if_pos (j8.1 (by assumption))).symm : 7 = subC x y)) (fun (h2 : ¬ (cmpN x y < 0)) => have hp0 := (show y ≤ x from Nat.le_of_not_lt (mt j8.2 (by assumption))); have hlen := jV hp0; I (by omega : (limbs x).length = (limbs x).length) (I (SubI.start x y : SubI x y 0 0 (List.replicate ((limbs x).length) (0 : Nat))) (fun (i : Nat) (c : Nat) (out : List Nat) (hb3 : HB [.s 23 (.nat .i64) (.n 34359738369), .s 7 (.nat .u64) (.n 1), .a 20 (.nat .u32) (.n 4294967295)] (i, c, out)) (hI : SubI x y i c out) => have hv8 := (show i ≤ 34359738369 from hb3.1); have hv9 := (show c ≤ 1 from hb3.2.1); have hv10 := (show ∀ u ∈ out, u ≤ 4294967295 from hb3.2.2); have hIl := hI.hl; have hIi := hI.hi; have hIc := hI.hc; have hg1 := qb x i; have hg2 := qb y i; And.intro (fun (h4 : i < (limbs x).length) => I (by omega : i < (limbs x).length) (And.intro (fun (h5 : i < (limbs y).length) => I (by omega : i < (limbs y).length) (I (ve (by first | omega | exact Nat.lt_succ_of_le (jW _ _)) (by omega) : qo .sub .u64 (((limbs x).getD i 0 : Nat) : Int) ((c + ((limbs y).getD i 0) : Nat) : Int) ((dif ((limbs x).getD i 0) (c + ((limbs y).getD i 0)) : Nat) : Int)) (I (jW _ _ : dif ((limbs x).getD i 0) (c + ((limbs y).getD i 0)) ≤ 18446744073709551615) (I (by omega : i < (limbs x).length) (I (by omega : i < out.length) (I (show (i + 1) ≤ 34359738369 by omega : Bnd (.nat .i64) (.n 34359738369) (i + 1)) (And.intro (hI.step (by omega) (by first | rfl | rw [qp (l := limbs y) (by omega), Nat.add_zero]) : SubI x y (i + 1) ((dif ((limbs x).getD i 0) (c + ((limbs y).getD i 0))) / 2 ^ 63) (out.set i ((dif ((limbs x).getD i 0) (c + ((limbs y).getD i 0))) % 4294967296))) (by omega : (limbs x).length - (i + 1) < (limbs x).length - i)))))))) (fun (h6 : ¬ (i < (limbs y).length)) => I (ve (by first | omega | exact Nat.lt_succ_of_le (jW _ _)) (by omega) : qo .sub .u64 (((limbs x).getD i 0 : Nat) : Int) (c : Int) ((dif ((limbs x).getD i 0) c : Nat) : Int)) (I (jW _ _ : dif ((limbs x).getD i 0) c ≤ 18446744073709551615) (I (by omega : i < (limbs x).length) (I (by omega : i < out.length) (I (show (i + 1) ≤ 34359738369 by omega : Bnd (.nat .i64) (.n 34359738369) (i + 1)) (And.intro (hI.step (by omega) (by first | rfl | rw [qp (l := limbs y) (by omega), Nat.add_zero]) : SubI x y (i + 1) ((dif ((limbs x).getD i 0) c) / 2 ^ 63) (out.set i ((dif ((limbs x).getD i 0) c) % 4294967296))) (by omega : (limbs x).length - (i + 1) < (limbs x).length - i))))))))) (fun (h7 : ¬ (i < (limbs x).length)) => I (by omega : (limbs x).length = out.length) (have hF := hI.fin' (by omega) hp0; I (hF.2 : ∀ u ∈ out, u < 4294967296) (And.intro (hF.1 : valL out = x - y) ((if_neg (by omega)).symm : 0 = subC x y))))))))⟩)
abbrev q0z : Ctr Tryz.prog := FI.c q0B
abbrev Vh : FI := ⟨197, [.mag, (.nat .u32)], [(.n 1099511627776), (.n 4294967295)], fun z => (fun (x : Nat) (u : Nat) => [0 < u]) z.1 z.2, fun b z => (fun (x : Nat) (u : Nat) => .tup [.one (.dt .mag (b0 b) (x / u)), .one (.dt (.nat .u32) (b1 b) (x % u))]) z.1 z.2⟩
theorem Vi : Vh.OK Tryz.prog := mkF hmix 43 Tryz.func197 rfl rfl (by decide) [] (fun _ => rfl) (fun _ => rfl) (fun _ _ => rfl) (fun (x : Nat) (u : Nat) b hx hp => qd (q9 ((Bnds.h2 hx).1.magLe (Nat.div_le_self _ _)) rfl) (qd (q9 ((Bnds.h2 hx).2.natLe (Nat.le_of_lt (Nat.mod_lt _ (hp _ (List.mem_cons_self))))) rfl) qR)) (fun (x : Nat) (u : Nat) hx hp => by
 have hx0 : lt2 x 1099511627776 := hx.1
 have hl0 : (limbs x).length ≤ 34359738369 := qc (Nat.le_of_lt hx0)
 have hx1 : u ≤ 4294967295 := hx.2
 have hp0 : 0 < u := hp _ (List.mem_cons_self)
 exact ⟨.h 1 2 (.mk (.arr (.nat .u32) (.n 4294967295))) (.loop [.s 8 (.int .i64) (.n 34359738370), .s 7 (.nat .u64) (.n 4294967295), .a 11 (.nat .u32) (.n 4294967295)] (fun ((z, r, out) : Int × Nat × List Nat) => SmallZ x u z r out) (fun ((z, r, out) : Int × Nat × List Nat) => (z + 1).toNat) (fun ((z, r, out) : Int × Nat × List Nat) => .cond (.h 6 4 (.ix z.toNat) (.h 6 7 (.i (.n ((r * 2 ^ 32) + ((limbs x).getD z.toNat 0)) 18446744073709551615)) (.h 7 7 (.ix z.toNat) (.nil)))) (.pre 9 (.frz 11 true [6, 7]) (.h 9 1 (.c wW) (.nil))))), kcast (by kernel_rfl) (I (by omega : (limbs x).length = (limbs x).length) (I (SmallZ.start hp0 : SmallZ x u ((((limbs x).length : Nat) : Int) - 1) 0 (List.replicate ((limbs x).length) (0 : Nat))) (fun (z : Int) (r : Nat) (out : List Nat) (hb1 : HB [.s 8 (.int .i64) (.n 34359738370), .s 7 (.nat .u64) (.n 4294967295), .a 11 (.nat .u32) (.n 4294967295)] (z, r, out)) (hI : SmallZ x u z r out) => have hv4 := (show Int.natAbs z ≤ 34359738370 from hb1.1); have hv5 := (show r ≤ 4294967295 from hb1.2.1); have hv6 := (show ∀ u ∈ out, u ≤ 4294967295 from hb1.2.2); have hB := hI.b; And.intro (fun (h2 : 0 ≤ z) => I (by omega : z = ((z.toNat : Nat) : Int)) (I (by omega : z.toNat < (limbs x).length) (I (AA _ 32 rfl (qb _ _) (by have := qb x z.toNat; omega) : qo .or .u64 ((r * 2 ^ 32 : Nat) : Int) (((limbs x).getD z.toNat 0 : Nat) : Int) (((r * 2 ^ 32) + ((limbs x).getD z.toNat 0) : Nat) : Int)) (I (by have := qb x z.toNat; omega : (r * 2 ^ 32) + ((limbs x).getD z.toNat 0) ≤ 18446744073709551615) (I (by omega : 0 < u) (I (by omega : z = ((z.toNat : Nat) : Int)) (I (by omega : z.toNat < (limbs x).length) (I (by omega : z.toNat < out.length) (I (by omega : 0 < u) (I (show Int.natAbs (z - 1) ≤ 34359738370 by omega : Bnd (.int .i64) (.n 34359738370) (z - 1)) (And.intro (hI.step (by omega) rfl : SmallZ x u (z - 1) (((r * 2 ^ 32) + ((limbs x).getD z.toNat 0)) % u) (out.set z.toNat ((((r * 2 ^ 32) + ((limbs x).getD z.toNat 0)) / u) % 4294967296))) (by omega : ((z - 1) + 1).toNat < (z + 1).toNat)))))))))))) (fun (h3 : ¬ (0 ≤ z)) => I (by omega : (limbs x).length = out.length) (have hF := hI.fin (by omega); I (hF.2.2 : ∀ u ∈ out, u < 4294967296) (And.intro (hF.1 : valL out = x / u) (hF.2.1 : r = x % u)))))))⟩)
abbrev Vg : Ctr Tryz.prog := FI.c Vi
abbrev Uh : FI := ⟨196, [.mag], [(.n 1099511627776)], fun z => (fun (x : Nat) => [(limbs x).length ≤ 2]) z, fun b z => (fun (x : Nat) => .c (.one (.dt (.nat .u64) (.n 18446744073709551615) x))) z⟩
theorem Ui : Uh.OK Tryz.prog := mkF hmix 21 Tryz.func196 rfl rfl (by decide) [] (fun _ => rfl) (fun _ => rfl) (fun _ _ => rfl) (fun (x : Nat) b hx hp => q9 (Nat.le_of_lt_succ (Is (hp _ (List.mem_cons_self)))) rfl) (fun (x : Nat) hx hp => by
 have hx0 : lt2 x 1099511627776 := hx
 have hl0 : (limbs x).length ≤ 34359738369 := qc (Nat.le_of_lt hx0)
 have hp0 : (limbs x).length ≤ 2 := hp _ (List.mem_cons_self)
 exact ⟨.loop [.s 4 (.int .i64) (.n 68719476736), .s 3 (.nat .u64) (.n 18446744073709551615)] (fun ((z, v) : Int × Nat) => WordZ x z v) (fun ((z, v) : Int × Nat) => (z + 1).toNat) (fun ((z, v) : Int × Nat) => .cond (.h 5 1 (.i (.n (v * 2 ^ 32) 18446744073709551615)) (.h 5 4 (.ix z.toNat) (.h 5 7 (.i (.n ((v * 2 ^ 32) + ((limbs x).getD z.toNat 0)) 18446744073709551615)) (.nil)))) (.nil)), kcast (by kernel_rfl) (I (WordZ.start x : WordZ x ((((limbs x).length : Nat) : Int) - 1) 0) (fun (z : Int) (v : Nat) (hb1 : HB [.s 4 (.int .i64) (.n 68719476736), .s 3 (.nat .u64) (.n 18446744073709551615)] (z, v)) (hI : WordZ x z v) => have hv4 := (show Int.natAbs z ≤ 68719476736 from hb1.1); have hv5 := (show v ≤ 18446744073709551615 from hb1.2); have hB0 := hI.h0; have hB1 := hI.h1; And.intro (fun (h2 : 0 ≤ z) => have hw := hI.lt hp0 (by omega); I (EI v 32 (by omega) (by omega) : qo .shl .u64 (v : Int) 32 ((v * 2 ^ 32 : Nat) : Int)) (I (by omega : v * 2 ^ 32 ≤ 18446744073709551615) (I (by omega : z = ((z.toNat : Nat) : Int)) (I (by omega : z.toNat < (limbs x).length) (I (AA _ 32 rfl (qb _ _) (by have := qb x z.toNat; omega) : qo .or .u64 ((v * 2 ^ 32 : Nat) : Int) (((limbs x).getD z.toNat 0 : Nat) : Int) (((v * 2 ^ 32) + ((limbs x).getD z.toNat 0) : Nat) : Int)) (I (by have := qb x z.toNat; omega : (v * 2 ^ 32) + ((limbs x).getD z.toNat 0) ≤ 18446744073709551615) (I (show Int.natAbs (z - 1) ≤ 68719476736 by omega : Bnd (.int .i64) (.n 68719476736) (z - 1)) (And.intro (hI.step (by omega) : WordZ x (z - 1) ((v * 2 ^ 32) + ((limbs x).getD z.toNat 0))) (by omega : ((z - 1) + 1).toNat < (z + 1).toNat))))))))) (fun (h3 : ¬ (0 ≤ z)) => (hI.fin (by omega) : v = x))))⟩)
abbrev Ug : Ctr Tryz.prog := FI.c Ui
abbrev UX : FI := ⟨154, [.mag], [(.n 1099511627776)], fun z => (fun (x : Nat) => [(limbs x).length ≤ 2]) z, fun b z => (fun (x : Nat) => .c (.one (.dt (.nat .u64) (.n 18446744073709551615) x))) z⟩
theorem UY : UX.OK Tryz.prog := mkF hmix 21 Tryz.func154 rfl rfl (by decide) [] (fun _ => rfl) (fun _ => rfl) (fun _ _ => rfl) (fun (x : Nat) b hx hp => q9 (Nat.le_of_lt_succ (Is (hp _ (List.mem_cons_self)))) rfl) (fun (x : Nat) hx hp => by
 have hx0 : lt2 x 1099511627776 := hx
 have hl0 : (limbs x).length ≤ 34359738369 := qc (Nat.le_of_lt hx0)
 have hp0 : (limbs x).length ≤ 2 := hp _ (List.mem_cons_self)
 exact ⟨.loop [.s 4 (.int .i64) (.n 68719476736), .s 3 (.nat .u64) (.n 18446744073709551615)] (fun ((z, v) : Int × Nat) => WordZ x z v) (fun ((z, v) : Int × Nat) => (z + 1).toNat) (fun ((z, v) : Int × Nat) => .cond (.h 5 1 (.i (.n (v * 2 ^ 32) 18446744073709551615)) (.h 5 4 (.ix z.toNat) (.h 5 7 (.i (.n ((v * 2 ^ 32) + ((limbs x).getD z.toNat 0)) 18446744073709551615)) (.nil)))) (.nil)), kcast (by kernel_rfl) (I (WordZ.start x : WordZ x ((((limbs x).length : Nat) : Int) - 1) 0) (fun (z : Int) (v : Nat) (hb1 : HB [.s 4 (.int .i64) (.n 68719476736), .s 3 (.nat .u64) (.n 18446744073709551615)] (z, v)) (hI : WordZ x z v) => have hv4 := (show Int.natAbs z ≤ 68719476736 from hb1.1); have hv5 := (show v ≤ 18446744073709551615 from hb1.2); have hB0 := hI.h0; have hB1 := hI.h1; And.intro (fun (h2 : 0 ≤ z) => have hw := hI.lt hp0 (by omega); I (EI v 32 (by omega) (by omega) : qo .shl .u64 (v : Int) 32 ((v * 2 ^ 32 : Nat) : Int)) (I (by omega : v * 2 ^ 32 ≤ 18446744073709551615) (I (by omega : z = ((z.toNat : Nat) : Int)) (I (by omega : z.toNat < (limbs x).length) (I (AA _ 32 rfl (qb _ _) (by have := qb x z.toNat; omega) : qo .or .u64 ((v * 2 ^ 32 : Nat) : Int) (((limbs x).getD z.toNat 0 : Nat) : Int) (((v * 2 ^ 32) + ((limbs x).getD z.toNat 0) : Nat) : Int)) (I (by have := qb x z.toNat; omega : (v * 2 ^ 32) + ((limbs x).getD z.toNat 0) ≤ 18446744073709551615) (I (show Int.natAbs (z - 1) ≤ 68719476736 by omega : Bnd (.int .i64) (.n 68719476736) (z - 1)) (And.intro (hI.step (by omega) : WordZ x (z - 1) ((v * 2 ^ 32) + ((limbs x).getD z.toNat 0))) (by omega : ((z - 1) + 1).toNat < (z + 1).toNat))))))))) (fun (h3 : ¬ (0 ≤ z)) => (hI.fin (by omega) : v = x))))⟩)
abbrev Kv : Ctr Tryz.prog := FI.c UY
abbrev UE : FO := ⟨199, [.mag, (.nat .i64)], [(.n 1099511627776), (.n 32)], fun _ => [], fun k b z => (fun (x : Nat) (s : Nat) => .c (.one (.gs k ((limbs x).length + 1) 1 ((b0 b).nb / 32 + 2)))) z.1 z.2, fun b z => (fun (x : Nat) (s : Nat) => .gro (.nat .u32) (.n 4294967295) (padL (x * 2 ^ s) ((limbs x).length + 1))) z.1 z.2⟩
theorem Kp : UE.OK Tryz.prog := mkO hmix 41 12 Tryz.func199 rfl rfl (by decide) [] (fun _ => rfl) (fun _ _ _ => rfl) (fun _ _ => rfl) (fun _ _ _ => ⟨rfl, rfl⟩) (fun (x : Nat) (s : Nat) k b hx hp => ⟨q9 (Nat.succ_le_succ (Kd (Bnds.h2 hx).1)) rfl, IF _ _⟩) (fun (x : Nat) (s : Nat) hx hp => by
 have hx0 : lt2 x 1099511627776 := hx.1
 have hl0 : (limbs x).length ≤ 34359738369 := qc (Nat.le_of_lt hx0)
 have hx1 : s ≤ 32 := hx.2
 exact bodyO.g (.h 1 3 (.mk (.gro (.nat .u32) (.n 4294967295))) (.loop [.s 15 (.nat .i64) (.n 34359738369), .s 6 (.nat .u64) (.n 4294967295), .bk 12 (.nat .u32) (.n 4294967295)] (fun ((i, c, out) : Nat × Nat × List Nat) => RaiseI x s i c out) (fun ((i, c, out) : Nat × Nat × List Nat) => (limbs x).length - i) (fun ((i, c, out) : Nat × Nat × List Nat) => .cond (.h 6 4 (.i (.n (((limbs x).getD i 0) * 2 ^ s) 18446744073709551615)) (.h 6 5 (.i (.n (c + (((limbs x).getD i 0) * 2 ^ s)) 18446744073709551615)) (.nil))) (.nil)))) (kcast (by kernel_rfl) (I (by omega : ((limbs x).length) + 1 = ((limbs x).length) + 1) (I (RaiseI.start x s : RaiseI x s 0 0 (List.replicate (((limbs x).length) + 1) (0 : Nat))) (fun (i : Nat) (c : Nat) (out : List Nat) (hb1 : HB [.s 15 (.nat .i64) (.n 34359738369), .s 6 (.nat .u64) (.n 4294967295), .bk 12 (.nat .u32) (.n 4294967295)] (i, c, out)) (hI : RaiseI x s i c out) => have hv4 := (show i ≤ 34359738369 from hb1.1); have hv5 := (show c ≤ 4294967295 from hb1.2.1); have hv6 := (show ∀ u ∈ out, u ≤ 4294967295 from hb1.2.2); have hIl := hI.hl; have hIi := hI.hi; have hIc := hI.hc; have hg1 := qb x i; have hbd := GS hg1 hx1 hIc; And.intro (fun (h2 : i < (limbs x).length) => I (by omega : i < (limbs x).length) (I (EI _ _ (by omega) (AS (by omega) (by omega)) : qo .shl .u64 (((limbs x).getD i 0 : Nat) : Int) (s : Int) ((((limbs x).getD i 0) * 2 ^ s : Nat) : Int)) (I (Nat.le_of_lt_succ (AS (by omega) (by omega)) : ((limbs x).getD i 0) * 2 ^ s ≤ 18446744073709551615) (I (EH _ _ rfl hIc hbd : qo .or .u64 (c : Int) ((((limbs x).getD i 0) * 2 ^ s : Nat) : Int) ((c + (((limbs x).getD i 0) * 2 ^ s) : Nat) : Int)) (I (Nat.le_of_lt_succ hbd : c + (((limbs x).getD i 0) * 2 ^ s) ≤ 18446744073709551615) (I (by omega : i < ((limbs x).length) + 1) (I (by omega : i < out.length) (I (show (i + 1) ≤ 34359738369 by omega : Bnd (.nat .i64) (.n 34359738369) (i + 1)) (And.intro (hI.step (by omega) rfl : RaiseI x s (i + 1) ((c + (((limbs x).getD i 0) * 2 ^ s)) / 2 ^ 32) (out.set i ((c + (((limbs x).getD i 0) * 2 ^ s)) % 4294967296))) (by omega : (limbs x).length - (i + 1) < (limbs x).length - i)))))))))) (fun (h3 : ¬ (i < (limbs x).length)) => I (by omega : (limbs x).length < ((limbs x).length) + 1) (I (by omega : (limbs x).length < out.length) (And.intro (hI.fin' (by omega) (by omega) : out.set ((limbs x).length) c = padL (x * 2 ^ s) ((limbs x).length + 1)) ((by omega : ((limbs x).length) + 1 = (limbs x).length + 1))))))))))
abbrev UD : CtrO Tryz.prog := FO.c Kp
abbrev UC (k : Nat) (b : List Bd) (x : Nat) (s : Nat) : WV := .c (.one (.gs k ((limbs x).length + 1) 1 ((b0 b).nb / 32 + 2)))
abbrev UB (b : List Bd) (x : Nat) (s : Nat) : WB := .gro (.nat .u32) (.n 4294967295) (padL (x * 2 ^ s) ((limbs x).length + 1))
theorem NX (d : Nat) (x : Nat) (s : Nat) (hx : Bnds [.mag, (.nat .i64)] [(.n 1099511627776), (.n 32)] (x, s)) (hp : ∀ c0 ∈ ([] : List Prop), c0) : SigG Tryz.prog 199 (argsE [.mag, (.nat .i64)] (x, s)) [] (UC d [(.n 1099511627776), (.n 32)] x s).exp [(d, some (UB [(.n 1099511627776), (.n 32)] x s).exp)] := Kp.sig d (x, s) hx hp
abbrev IK (b : List Bd) (x s : Nat) : WV := .c (.one (.dt (.sl (.nat .u32)) (.s ((b0 b).nb / 32 + 2) (.n 4294967295)) (padL (x * 2 ^ s) ((limbs x).length + 1))))
theorem NW (b : List Bd) (x s : Nat) (hx : Bnds [.mag, .nat .i64] b (x, s)) (hp : ∀ p ∈ ([] : List Prop), p) : (IK b x s).ok := q9 ⟨by rw [wH]; exact Nat.succ_le_succ (Kd (Bnds.h2 hx).1), IF _ _⟩ rfl
def IL : Ctr Tryz.prog := ⟨199, [.mag, .nat .i64], [.n 1099511627776, .n 32], fun z => [], fun b z => IK b z.1 z.2, fun z hx hp => frzO (NX 0 z.1 z.2 hx hp) (by decide) (wH _ _).symm _, fun _ _ => rfl, fun b z hx hp => NW b z.1 z.2 hx hp⟩
abbrev of_i : FI := ⟨159, [(.nat .u64)], [(.n 18446744073709551615)], fun _ => [], fun b z => (fun (x : Nat) => .c (.one (.dt .mag (.n (Nat.log2 (b0 b).nb + 1)) (x)))) z⟩
theorem of_k : of_i.OK Tryz.prog := mkF hmix 10 Tryz.func159 rfl rfl (by decide) [] (fun _ => rfl) (fun _ => rfl) (fun _ _ => rfl) (fun (x : Nat) b hx hp => q9 (Nat.lt_of_le_of_lt (Bnds.h1 hx).nat Nat.lt_log2_self) rfl) (fun (x : Nat) hx hp => by
 have hx0 : x ≤ 18446744073709551615 := hx
 exact ⟨.h 1 5 (.mk (.im (.nat .u32) (.n 4294967295))) (.h 1 6 (.c wW) (.nil)), kcast (by kernel_rfl) (I (by intro u hu; simp only [List.mem_cons, List.not_mem_nil, or_false] at hu; omega : ∀ u ∈ [x % 4294967296, x / 2 ^ 32], u < 4294967296) ((by simp only [valL]; omega : valL [x % 4294967296, x / 2 ^ 32] = x)))⟩)
abbrev of_c : Ctr Tryz.prog := FI.c of_k
abbrev Ql : FI := ⟨184, [(.sl (.nat .u32))], [(.s 1099511627776 (.n 4294967295))], fun z => (fun (ls : List Nat) => [ls.length = 0 ∨ ls.getD (ls.length - 1) 0 ≠ 0]) z, fun b z => .c (.one (.vl (.bool true)))⟩
theorem Qm : Ql.OK Tryz.prog := mkF hmix 15 Tryz.func184 rfl rfl (by decide) [] (fun _ => rfl) (fun _ => rfl) (fun _ _ => rfl) (fun (ls : List Nat) b hx hp => zO rfl) (fun (ls : List Nat) hx hp => by
 have hl0 : ls.length ≤ 1099511627776 := hx.1
 have hp0 : ls.length = 0 ∨ ls.getD (ls.length - 1) 0 ≠ 0 := hp _ (List.mem_cons_self)
 exact ⟨.cond (.nil) (.h 1 7 (.i .sub) (.nil)), kcast (by kernel_rfl) (And.intro (fun (h1 : ls.length = 0) => trivial) (fun (h2 : ¬ (ls.length = 0)) => I (by omega : 1 ≤ ls.length) (I (by omega : ls.length - 1 < ls.length) ((by omega : ls.getD (ls.length - 1) 0 ≠ 0)))))⟩)
abbrev Qk : Ctr Tryz.prog := FI.c Qm
def tab8 : ByteArray := ⟨#[0, 1, 2, 2, 3, 3, 3, 3, 4, 4, 4, 4, 4, 4, 4, 4, 5, 5, 5, 5, 5, 5, 5, 5, 5, 5, 5, 5, 5, 5, 5, 5, 6, 6, 6, 6, 6, 6, 6, 6, 6, 6, 6, 6, 6, 6, 6, 6, 6, 6, 6, 6, 6, 6, 6, 6, 6, 6, 6, 6, 6, 6, 6, 6, 7, 7, 7, 7, 7, 7, 7, 7, 7, 7, 7, 7, 7, 7, 7, 7, 7, 7, 7, 7, 7, 7, 7, 7, 7, 7, 7, 7, 7, 7, 7, 7, 7, 7, 7, 7, 7, 7, 7, 7, 7, 7, 7, 7, 7, 7, 7, 7, 7, 7, 7, 7, 7, 7, 7, 7, 7, 7, 7, 7, 7, 7, 7, 7, 8, 8, 8, 8, 8, 8, 8, 8, 8, 8, 8, 8, 8, 8, 8, 8, 8, 8, 8, 8, 8, 8, 8, 8, 8, 8, 8, 8, 8, 8, 8, 8, 8, 8, 8, 8, 8, 8, 8, 8, 8, 8, 8, 8, 8, 8, 8, 8, 8, 8, 8, 8, 8, 8, 8, 8, 8, 8, 8, 8, 8, 8, 8, 8, 8, 8, 8, 8, 8, 8, 8, 8, 8, 8, 8, 8, 8, 8, 8, 8, 8, 8, 8, 8, 8, 8, 8, 8, 8, 8, 8, 8, 8, 8, 8, 8, 8, 8, 8, 8, 8, 8, 8, 8, 8, 8, 8, 8, 8, 8, 8, 8, 8, 8, 8, 8, 8, 8, 8, 8, 8, 8, 8, 8, 8, 8, 8, 8]⟩
abbrev ST : FO := ⟨163, [(.sl (.nat .u32))], [(.s 1099511627776 (.n 4294967295))], fun _ => [], fun k b z => (fun (ls : List Nat) => .c (.one (.gs k (ls.length) 1 ((b0 b).len)))) z, fun b z => (fun (ls : List Nat) => .gro (.nat .u32) ((b0 b).e) (ls)) z⟩
theorem JU : ST.OK Tryz.prog := mkO hmix 8 7 Tryz.func163 rfl rfl (by decide) [] (fun _ => rfl) (fun _ _ _ => rfl) (fun _ _ => rfl) (fun _ _ _ => ⟨rfl, rfl⟩) (fun (ls : List Nat) k b hx hp => ⟨q9 (Bnds.h1 hx).sl.1 rfl, (Bnds.h1 hx).sl.2⟩) (fun (ls : List Nat) hx hp => by
 have hl0 : ls.length ≤ 1099511627776 := hx.1
 exact bodyO.g (.cond (.nil) (.h 3 0 (.mk (.gro (.nat .u32) (.n 4294967295))) (.nil))) (kcast (by kernel_rfl) (And.intro (fun (h1 : ls = []) => And.intro (h1.symm : ([] : List Nat) = ls) ((by rw [h1]; rfl : 0 = ls.length))) (I (rfl : 0 = ([] : List Nat).length) (And.intro (rfl : ([] : List Nat) ++ ls = ls) ((by omega : 0 + ls.length = ls.length)))))))
abbrev SS : CtrO Tryz.prog := FO.c JU
abbrev SQ (k : Nat) (b : List Bd) (ls : List Nat) : WV := .c (.one (.gs k (ls.length) 1 ((b0 b).len)))
abbrev SP (b : List Bd) (ls : List Nat) : WB := .gro (.nat .u32) ((b0 b).e) (ls)
theorem Ms (d : Nat) (ls : List Nat) (hx : Bnds [(.sl (.nat .u32))] [(.s 1099511627776 (.n 4294967295))] ls) (hp : ∀ c0 ∈ ([] : List Prop), c0) : SigG Tryz.prog 163 (argsE [(.sl (.nat .u32))] ls) [] (SQ d [(.s 1099511627776 (.n 4294967295))] ls).exp [(d, some (SP [(.s 1099511627776 (.n 4294967295))] ls).exp)] := JU.sig d ls hx hp
def Ai : Ctr Tryz.prog := ⟨163, [.sl (.nat .u32)], [.s 1099511627776 (.n 4294967295)], fun z => [], fun b z => .c (.one (.dt (.sl (.nat .u32)) (b0 b) z)), fun z hx hp => frzO (Ms 0 z hx hp) (by decide) rfl _, fun _ _ => rfl, fun b z hx hp => q9 (Bnds.h1 hx) rfl⟩
theorem L3 (x : Nat) (hx : Bnds [.mag] [.n 1099511627776] x) : Sig Tryz.prog 163 (argsE [.mag] x) (WV.c (.one (.dt .mag (.n 1099511627776) x))).exp := by
 have h := Ai.sig (limbs x) ⟨Nat.le_trans (qc (Nat.le_of_lt hx)) (by decide), (Bnd.limbs hx).2⟩ (by intro p hp; cases hp)
 have e : (Ai.res Ai.bs (limbs x)).exp = (WV.c (.one (.dt .mag (.n 1099511627776) x))).exp := magE x _ _
 rw [e] at h
 rw [Az]; exact h
def BQ : Ctr Tryz.prog := ⟨163, [.mag], [.n 1099511627776], fun z => [], fun b z => .c (.one (.dt .mag (b0 b) z)), fun z hx hp => L3 z hx, fun _ _ => rfl, fun b z hx hp => q9 (Bnds.h1 hx) rfl⟩
abbrev Vt : FV := ⟨152, true, (.nat .u32), (.n 4294967295), 1099511627776, [], [], fun l lo n cap z => [n = l.length], fun k b l lo n cap z => .c (.one (.gs k (limbs (valL l)).length 1 1099511627776)), fun l lo n cap z => l⟩
theorem Vu : Vt.OK Tryz.prog := mkSl hmix 21 Tryz.func152 rfl rfl (by decide) [] (fun _ => rfl) (fun _ _ _ _ _ => rfl) (fun _ _ _ _ _ _ _ => rfl) (fun _ _ _ _ _ _ => rfl) (fun (l : List Nat) (lo n cap : Nat)  k b hx hs hn (hm : n ≤ 1099511627776) hp => ⟨q9 (Nat.le_trans (Bp (Gn hs)) (by have := hp _ (List.mem_cons_self); omega)) rfl, hs⟩) (fun (l : List Nat) (lo n cap : Nat)  hs hx hn (hm : n ≤ 1099511627776) hp => by
 have hp0 : n = l.length := hp _ (List.mem_cons_self)
 have hU := Gn hs
 exact ⟨.loop [.s 3 (.nat .i64) (.n 1099511627776)] (fun (k : Nat) => k ≤ l.length ∧ valL (l.take k) = valL l) (fun (k : Nat) => k) (fun (k : Nat) => .cond (.h 2 5 (.i .sub) (.cond (.h 3 1 (.i .sub) (.nil)) (.nil))) (.nil)), kcast (by kernel_rfl) (I (⟨by omega, by rw [hp0, List.take_length]⟩ : n ≤ l.length ∧ valL (l.take n) = valL l) (fun (k : Nat) (hb1 : HB [.s 3 (.nat .i64) (.n 1099511627776)] k) (hC : k ≤ l.length ∧ valL (l.take k) = valL l) => have hv6 := (show k ≤ 1099511627776 from hb1); have hk := hC.1; And.intro (fun (h2 : 0 < k) => I (by omega : 1 ≤ k) (I (by omega : k - 1 < n) (I (by omega : k - 1 < l.length) (And.intro (fun (h3 : l.getD (k - 1) 0 = 0) => I (by omega : 1 ≤ k) (And.intro (⟨by omega, D8 hC.1 (by omega) hC.2 (by omega)⟩ : k - 1 ≤ l.length ∧ valL (l.take (k - 1)) = valL l) (by omega : k - 1 < k))) (fun (h4 : ¬ (l.getD (k - 1) 0 = 0)) => I (by omega : k ≤ n) (I (by omega : n ≤ l.length) (And.intro (Eq.refl l) ((by rw [← zq hU hC.1 hC.2 (by omega), List.length_take, Nat.min_eq_left hC.1] : k = (limbs (valL l)).length))))))))) (fun (h5 : ¬ (0 < k)) => I (by omega : k ≤ n) (I (by omega : n ≤ l.length) (And.intro (Eq.refl l) ((by rw [← zq hU hC.1 hC.2 (by omega), List.length_take, Nat.min_eq_left hC.1] : k = (limbs (valL l)).length)))))))⟩)
abbrev KH : CtrS Tryz.prog := FV.c Vu
theorem bl_8 {x : Nat} (h : x < 256) : bl x ≤ 8 := by
 have h1 := BO x
 rcases Nat.eq_zero_or_pos x with e | e
 ·subst e; decide
 ·have h2 := Dg (n := x) (by omega)
  apply Nat.le_of_lt_succ
  apply Nat.lt_of_not_le
  intro h3
  have := Nat.pow_le_pow_right (show 0 < 2 by omega) (show 8 ≤ bl x - 1 by omega)
  omega
abbrev TY : FI := ⟨153, [(.nat .u32)], [(.n 4294967295)], fun _ => [], fun b z => (fun (x : Nat) => .c (.one (.dt (.nat .i64) (.n (Nat.log2 (b0 b).nb + 1)) (bl x)))) z⟩
theorem TZ : TY.OK Tryz.prog := mkF hmix 19 Tryz.func153 rfl rfl (by decide) [] (fun _ => rfl) (fun _ => rfl) (fun _ _ => rfl) (fun (x : Nat) b hx hp => q9 (Wl (Bnds.h1 hx).nat) rfl) (fun (x : Nat) hx hp => by
 have hx0 : x ≤ 4294967295 := hx
 have h1 : 65536 ≤ x → bl x = bl (x / 2 ^ 16) + 16 := fun h => Ah (k := 16) h
 have h2 : 256 ≤ x / 2 ^ 16 → bl (x / 2 ^ 16) = bl (x / 2 ^ 16 / 2 ^ 8) + 8 := fun h => Ah (k := 8) h
 have h3 : 256 ≤ x → bl x = bl (x / 2 ^ 8) + 8 := fun h => Ah (k := 8) h
 exact ⟨.cond (.cond (.h 7 2 (.i (.n (((x / 2 ^ 16) / 2 ^ 8) % 256) 255)) (.h 7 3 (.any [.c (.one (.vl (.string tab8))), .c (.one (.dt (.nat .u8) (.n 255) (((x / 2 ^ 16) / 2 ^ 8) % 256)))] (.c (.one (.dt (.nat .u8) (.n 8) (bl (((x / 2 ^ 16) / 2 ^ 8) % 256))))) (q9 (bl_8 (Nat.mod_lt _ (by decide))) rfl) (Op.index 9 (.const (.string tab8)) (.tmp 15)) (fun _ => Dn (j := (((x / 2 ^ 16) / 2 ^ 8) % 256)) (by kernel_rfl) rfl (Nat.mod_lt _ (by decide)) (by kernel_rfl))) (.nil))) (.h 7 2 (.i (.n ((x / 2 ^ 16) % 256) 255)) (.h 7 3 (.any [.c (.one (.vl (.string tab8))), .c (.one (.dt (.nat .u8) (.n 255) ((x / 2 ^ 16) % 256)))] (.c (.one (.dt (.nat .u8) (.n 8) (bl ((x / 2 ^ 16) % 256))))) (q9 (bl_8 (Nat.mod_lt _ (by decide))) rfl) (Op.index 9 (.const (.string tab8)) (.tmp 15)) (fun _ => Dn (j := ((x / 2 ^ 16) % 256)) (by kernel_rfl) rfl (Nat.mod_lt _ (by decide)) (by kernel_rfl))) (.nil)))) (.cond (.h 7 2 (.i (.n ((x / 2 ^ 8) % 256) 255)) (.h 7 3 (.any [.c (.one (.vl (.string tab8))), .c (.one (.dt (.nat .u8) (.n 255) ((x / 2 ^ 8) % 256)))] (.c (.one (.dt (.nat .u8) (.n 8) (bl ((x / 2 ^ 8) % 256))))) (q9 (bl_8 (Nat.mod_lt _ (by decide))) rfl) (Op.index 9 (.const (.string tab8)) (.tmp 15)) (fun _ => Dn (j := ((x / 2 ^ 8) % 256)) (by kernel_rfl) rfl (Nat.mod_lt _ (by decide)) (by kernel_rfl))) (.nil))) (.h 7 2 (.i (.n (x % 256) 255)) (.h 7 3 (.any [.c (.one (.vl (.string tab8))), .c (.one (.dt (.nat .u8) (.n 255) (x % 256)))] (.c (.one (.dt (.nat .u8) (.n 8) (bl (x % 256))))) (q9 (bl_8 (Nat.mod_lt _ (by decide))) rfl) (Op.index 9 (.const (.string tab8)) (.tmp 15)) (fun _ => Dn (j := (x % 256)) (by kernel_rfl) rfl (Nat.mod_lt _ (by decide)) (by kernel_rfl))) (.nil)))), kcast (by kernel_rfl) (And.intro (fun (h1 : 65536 ≤ x) => And.intro (fun (h2 : 256 ≤ x / 2 ^ 16) => I (F7 _ : IntKind.wrap .u8 (((x / 2 ^ 16) / 2 ^ 8 : Nat) : Int) = ((((x / 2 ^ 16) / 2 ^ 8) % 256 : Nat) : Int)) (I (by omega : ((x / 2 ^ 16) / 2 ^ 8) % 256 ≤ 255) (I (rfl : ([.c (.one (.vl (.string tab8))), .c (.one (.dt (.nat .u8) (.n 255) (((x / 2 ^ 16) / 2 ^ 8) % 256)))] : List WV) = [.c (.one (.vl (.string tab8))), .c (.one (.dt (.nat .u8) (.n 255) (((x / 2 ^ 16) / 2 ^ 8) % 256)))]) (I (rfl : (Op.index 9 (.const (.string tab8)) (.tmp 15) : Op) = Op.index 9 (.const (.string tab8)) (.tmp 15)) ((by rw [Nat.mod_eq_of_lt (show ((x / 2 ^ 16) / 2 ^ 8) < 256 by omega)]; omega : 24 + (bl (((x / 2 ^ 16) / 2 ^ 8) % 256)) = bl x)))))) (fun (h3 : ¬ (256 ≤ x / 2 ^ 16)) => I (F7 _ : IntKind.wrap .u8 ((x / 2 ^ 16 : Nat) : Int) = (((x / 2 ^ 16) % 256 : Nat) : Int)) (I (by omega : (x / 2 ^ 16) % 256 ≤ 255) (I (rfl : ([.c (.one (.vl (.string tab8))), .c (.one (.dt (.nat .u8) (.n 255) ((x / 2 ^ 16) % 256)))] : List WV) = [.c (.one (.vl (.string tab8))), .c (.one (.dt (.nat .u8) (.n 255) ((x / 2 ^ 16) % 256)))]) (I (rfl : (Op.index 9 (.const (.string tab8)) (.tmp 15) : Op) = Op.index 9 (.const (.string tab8)) (.tmp 15)) ((by rw [Nat.mod_eq_of_lt (show (x / 2 ^ 16) < 256 by omega)]; omega : 16 + (bl ((x / 2 ^ 16) % 256)) = bl x))))))) (fun (h4 : ¬ (65536 ≤ x)) => And.intro (fun (h5 : 256 ≤ x) => I (F7 _ : IntKind.wrap .u8 ((x / 2 ^ 8 : Nat) : Int) = (((x / 2 ^ 8) % 256 : Nat) : Int)) (I (by omega : (x / 2 ^ 8) % 256 ≤ 255) (I (rfl : ([.c (.one (.vl (.string tab8))), .c (.one (.dt (.nat .u8) (.n 255) ((x / 2 ^ 8) % 256)))] : List WV) = [.c (.one (.vl (.string tab8))), .c (.one (.dt (.nat .u8) (.n 255) ((x / 2 ^ 8) % 256)))]) (I (rfl : (Op.index 9 (.const (.string tab8)) (.tmp 15) : Op) = Op.index 9 (.const (.string tab8)) (.tmp 15)) ((by rw [Nat.mod_eq_of_lt (show (x / 2 ^ 8) < 256 by omega)]; omega : 8 + (bl ((x / 2 ^ 8) % 256)) = bl x)))))) (fun (h6 : ¬ (256 ≤ x)) => I (F7 _ : IntKind.wrap .u8 (x : Int) = ((x % 256 : Nat) : Int)) (I (by omega : x % 256 ≤ 255) (I (rfl : ([.c (.one (.vl (.string tab8))), .c (.one (.dt (.nat .u8) (.n 255) (x % 256)))] : List WV) = [.c (.one (.vl (.string tab8))), .c (.one (.dt (.nat .u8) (.n 255) (x % 256)))]) (I (rfl : (Op.index 9 (.const (.string tab8)) (.tmp 15) : Op) = Op.index 9 (.const (.string tab8)) (.tmp 15)) ((by rw [Nat.mod_eq_of_lt (show x < 256 by omega)]; omega : 0 + (bl (x % 256)) = bl x))))))))⟩)
abbrev Kc : Ctr Tryz.prog := FI.c TZ
abbrev Xr : FI := ⟨198, [(.nat .u32)], [(.n 4294967295)], fun _ => [], fun b z => (fun (x : Nat) => .c (.one (.dt (.nat .i64) (.n 32) (32 - bl x)))) z⟩
theorem Xs : Xr.OK Tryz.prog := mkF hmix 6 Tryz.func198 rfl rfl (by decide) [(153, .c Kc)] (fun _ => rfl) (fun _ => rfl) (fun _ _ => rfl) (fun (x : Nat) b hx hp => q9 (Nat.sub_le _ _) rfl) (fun (x : Nat) hx hp => by
 have hx0 : x ≤ 4294967295 := hx
 have hb := @L1 x
 exact ⟨.h 1 2 (.i .sub) (.nil), kcast (by kernel_rfl) (I (by omega : bl x ≤ 32) ((by omega : 32 - (bl x) = 32 - bl x)))⟩)
abbrev Xq : Ctr Tryz.prog := FI.c Xs
abbrev Wj : FI := ⟨93, [.mag], [(.n 1099511627776)], fun _ => [], fun b z => (fun (x : Nat) => .c (.one (.dt (.nat .i64) (b0 b) (bl x)))) z⟩
theorem Wk : Wj.OK Tryz.prog := mkF hmix 20 Tryz.func93 rfl rfl (by decide) [(152, .c w5), (153, .c Kc)] (fun _ => rfl) (fun _ => rfl) (fun _ _ => rfl) (fun (x : Nat) b hx hp => q9 (Mo (Bnds.h1 hx)) rfl) (fun (x : Nat) hx hp => by
 have hx0 : lt2 x 1099511627776 := hx
 have hl0 : (limbs x).length ≤ 34359738369 := qc (Nat.le_of_lt hx0)
 exact ⟨.cond (.nil) (.h 4 2 (.i .sub) (.h 4 7 (.i .sub) (.nil))), kcast (by kernel_rfl) (And.intro (fun (h1 : (limbs x).length = 0) => (by have := (nl0 (x := x)).1 (by omega); subst this; rfl : 0 = bl x)) (fun (h2 : ¬ ((limbs x).length = 0)) => have hpos := (show 0 < (limbs x).length by omega); have hBB := FM hpos; I (by omega : 1 ≤ (limbs x).length) (I (by omega : 1 ≤ (limbs x).length) (I (by omega : ((limbs x).length) - 1 < (limbs x).length) ((by omega : (32 * (((limbs x).length) - 1)) + (bl ((limbs x).getD (((limbs x).length) - 1) 0)) = bl x))))))⟩)
abbrev Ag : Ctr Tryz.prog := FI.c Wk
abbrev ZB : FI := ⟨158, [.mag, .mag], [(.n 1099511627776), (.n 1099511627776)], fun z => (fun (x : Nat) (y : Nat) => [0 < y]) z.1 z.2, fun b z => (fun (x : Nat) (y : Nat) => .tup [.one (.dt .mag (b0 b) (x / y)), .one (.dt .mag (b1 b) (x % y)), .one (.kn .i64 0)]) z.1 z.2⟩
theorem ZC : ZB.OK Tryz.prog := mkF hmix 300 Tryz.func158 rfl rfl (by decide) [(152, .c wW), (163, .c BQ), (193, .c EL), (197, .c Vg), (198, .c Xq), (199, .c IL)] (fun _ => rfl) (fun _ => rfl) (fun _ _ => rfl) (fun (x : Nat) (y : Nat) b hx hp => qd (q9 ((Bnds.h2 hx).1.magLe (Nat.div_le_self _ _)) rfl) (qd (q9 ((Bnds.h2 hx).2.magLe (Nat.le_of_lt (Nat.mod_lt _ (hp _ (List.mem_cons_self))))) rfl) (qd wc qR))) (fun (x : Nat) (y : Nat) hx hp => by
 have hx0 : lt2 x 1099511627776 := hx.1
 have hl0 : (limbs x).length ≤ 34359738369 := qc (Nat.le_of_lt hx0)
 have hx1 : lt2 y 1099511627776 := hx.2
 have hl1 : (limbs y).length ≤ 34359738369 := qc (Nat.le_of_lt hx1)
 have hp0 : 0 < y := hp _ (List.mem_cons_self)
 have hyp := mt (nl0 (x := y)).1 (show ¬ y = 0 by omega)
 exact ⟨.h 1 1 (.c w5) (.h 1 3 (.c w5) (.cond (.dead) (.cond (.nil) (.cond (.h 8 2 (.mk (.im (.nat .u32) (.n 4294967295))) (.nil)) (.h 9 3 (.i .sub) ((fun (s : Nat) => .h 10 2 (.o UD) (.h 10 6 (.mag (y * 2 ^ s) 1099511627808) ((fun (m : Nat) => .h 12 3 (.i .sub) (.h 12 4 (.mk (.arr (.nat .u32) (.n 4294967295))) (.loop [.s 13 (.int .i64) (.n 1099511627776), .bk 66 (.nat .u32) (.n 4294967295), .a 77 (.nat .u32) (.n 4294967295)] (fun ((z, out, ql) : Int × List Nat × List Nat) => DivZ x y s z out ql) (fun ((z, out, ql) : Int × List Nat × List Nat) => (z + 1).toNat) (fun ((z, out, ql) : Int × List Nat × List Nat) => .cond ((fun (j : Nat) => .h 16 4 (.ix (j + m)) (.h 16 13 (.ix (j + m - 1)) (.h 16 16 (.i (.n (((out.getD (j + m) 0) * 2 ^ 32) + (out.getD (j + m - 1) 0)) 18446744073709551615)) ((fun (t : Nat) => .h 17 3 (.i .sub) (.h 17 11 (.i .sub) (.loop [.s 15 (.nat .u64) (.n 4294967297), .s 16 (.nat .u64) (.n 4294967295)] (fun ((q, r) : Nat × Nat) => Est x y s j out q r) (fun ((q, r) : Nat × Nat) => q) (fun ((q, r) : Nat × Nat) => .cond (.h 19 1 (.i .sub) (.h 20 3 (.i .sub) (.cond (.loop [.s 156 (.nat .i64) (.n 137438953472), .s 17 (.nat .u64) (.n 1), .s 18 (.nat .u64) (.n 4294967295), .bk 66 (.nat .u32) (.n 4294967295)] (fun ((i2, b, k, ls2) : Nat × Nat × Nat × List Nat) => MsI y s j (q - 1) out i2 k b ls2) (fun ((i2, b, k, ls2) : Nat × Nat × Nat × List Nat) => (limbs (y * 2 ^ s)).length - i2) (fun ((i2, b, k, ls2) : Nat × Nat × Nat × List Nat) => .cond (.h 26 5 (.i (.n (k + ((q - 1) * ((limbs (y * 2 ^ s)).getD i2 0))) 18446744073709551615)) (.h 27 4 (.ix (i2 + j)) (.h 27 8 (.i (.n ((k + ((q - 1) * ((limbs (y * 2 ^ s)).getD i2 0))) % 4294967296) 4294967295)) (.h 27 9 (.i (.n (dif (ls2.getD (i2 + j) 0) ((k + ((q - 1) * ((limbs (y * 2 ^ s)).getD i2 0))) % 4294967296)) 18446744073709551615)) (.h 27 11 (.i (.n (dif (dif (ls2.getD (i2 + j) 0) ((k + ((q - 1) * ((limbs (y * 2 ^ s)).getD i2 0))) % 4294967296)) b) 18446744073709551615)) (.h 28 6 (.ix (i2 + j)) (.nil))))))) (.h 32 4 (.ix (j + m)) (.h 32 8 (.i (.n (dif (ls2.getD (j + m) 0) k) 18446744073709551615)) (.h 32 10 (.i (.n (dif (dif (ls2.getD (j + m) 0) k) b) 18446744073709551615)) ((fun (d : Nat) => .h 33 6 (.ix (j + m)) (.cond (.h 35 1 (.i .sub) (.loop [.s 216 (.nat .i64) (.n 137438953472), .s 18 (.nat .u64) (.n 1), .bk 66 (.nat .u32) (.n 4294967295)] (fun ((i3, c3, ls3) : Nat × Nat × List Nat) => AbI y s j (ls2.set (j + m) (d % 4294967296)) i3 c3 ls3) (fun ((i3, c3, ls3) : Nat × Nat × List Nat) => (limbs (y * 2 ^ s)).length - i3) (fun ((i3, c3, ls3) : Nat × Nat × List Nat) => .cond (.h 40 5 (.ix (i3 + j)) (.h 41 6 (.ix (i3 + j)) (.nil))) (.h 44 4 (.ix (j + m)) (.h 44 8 (.i (.n (((ls3.getD (j + m) 0) + c3) % 4294967296) 4294967295)) (.h 44 9 (.ix (j + m)) (.h 45 4 (.ix j) (.nil)))))))) (.h 45 4 (.ix j) (.nil)))) (dif (dif (ls2.getD (j + m) 0) k) b))))))) (.nil)))) (.h 18 6 (.i .sub) (.h 18 18 (.ix (j + m - 2)) (.h 18 21 (.i (.n ((r * 2 ^ 32) + (out.getD (j + m - 2) 0)) 18446744073709551615)) (.cond (.h 19 1 (.i .sub) (.h 20 3 (.i .sub) (.cond (.loop [.s 156 (.nat .i64) (.n 137438953472), .s 17 (.nat .u64) (.n 1), .s 18 (.nat .u64) (.n 4294967295), .bk 66 (.nat .u32) (.n 4294967295)] (fun ((i2, b, k, ls2) : Nat × Nat × Nat × List Nat) => MsI y s j (q - 1) out i2 k b ls2) (fun ((i2, b, k, ls2) : Nat × Nat × Nat × List Nat) => (limbs (y * 2 ^ s)).length - i2) (fun ((i2, b, k, ls2) : Nat × Nat × Nat × List Nat) => .cond (.h 26 5 (.i (.n (k + ((q - 1) * ((limbs (y * 2 ^ s)).getD i2 0))) 18446744073709551615)) (.h 27 4 (.ix (i2 + j)) (.h 27 8 (.i (.n ((k + ((q - 1) * ((limbs (y * 2 ^ s)).getD i2 0))) % 4294967296) 4294967295)) (.h 27 9 (.i (.n (dif (ls2.getD (i2 + j) 0) ((k + ((q - 1) * ((limbs (y * 2 ^ s)).getD i2 0))) % 4294967296)) 18446744073709551615)) (.h 27 11 (.i (.n (dif (dif (ls2.getD (i2 + j) 0) ((k + ((q - 1) * ((limbs (y * 2 ^ s)).getD i2 0))) % 4294967296)) b) 18446744073709551615)) (.h 28 6 (.ix (i2 + j)) (.nil))))))) (.h 32 4 (.ix (j + m)) (.h 32 8 (.i (.n (dif (ls2.getD (j + m) 0) k) 18446744073709551615)) (.h 32 10 (.i (.n (dif (dif (ls2.getD (j + m) 0) k) b) 18446744073709551615)) ((fun (d : Nat) => .h 33 6 (.ix (j + m)) (.cond (.h 35 1 (.i .sub) (.loop [.s 216 (.nat .i64) (.n 137438953472), .s 18 (.nat .u64) (.n 1), .bk 66 (.nat .u32) (.n 4294967295)] (fun ((i3, c3, ls3) : Nat × Nat × List Nat) => AbI y s j (ls2.set (j + m) (d % 4294967296)) i3 c3 ls3) (fun ((i3, c3, ls3) : Nat × Nat × List Nat) => (limbs (y * 2 ^ s)).length - i3) (fun ((i3, c3, ls3) : Nat × Nat × List Nat) => .cond (.h 40 5 (.ix (i3 + j)) (.h 41 6 (.ix (i3 + j)) (.nil))) (.h 44 4 (.ix (j + m)) (.h 44 8 (.i (.n (((ls3.getD (j + m) 0) + c3) % 4294967296) 4294967295)) (.h 44 9 (.ix (j + m)) (.h 45 4 (.ix j) (.nil)))))))) (.h 45 4 (.ix j) (.nil)))) (dif (dif (ls2.getD (j + m) 0) k) b))))))) (.nil)))) (.loop [.s 156 (.nat .i64) (.n 137438953472), .s 17 (.nat .u64) (.n 1), .s 18 (.nat .u64) (.n 4294967295), .bk 66 (.nat .u32) (.n 4294967295)] (fun ((i2, b, k, ls2) : Nat × Nat × Nat × List Nat) => MsI y s j q out i2 k b ls2) (fun ((i2, b, k, ls2) : Nat × Nat × Nat × List Nat) => (limbs (y * 2 ^ s)).length - i2) (fun ((i2, b, k, ls2) : Nat × Nat × Nat × List Nat) => .cond (.h 26 5 (.i (.n (k + (q * ((limbs (y * 2 ^ s)).getD i2 0))) 18446744073709551615)) (.h 27 4 (.ix (i2 + j)) (.h 27 8 (.i (.n ((k + (q * ((limbs (y * 2 ^ s)).getD i2 0))) % 4294967296) 4294967295)) (.h 27 9 (.i (.n (dif (ls2.getD (i2 + j) 0) ((k + (q * ((limbs (y * 2 ^ s)).getD i2 0))) % 4294967296)) 18446744073709551615)) (.h 27 11 (.i (.n (dif (dif (ls2.getD (i2 + j) 0) ((k + (q * ((limbs (y * 2 ^ s)).getD i2 0))) % 4294967296)) b) 18446744073709551615)) (.h 28 6 (.ix (i2 + j)) (.nil))))))) (.h 32 4 (.ix (j + m)) (.h 32 8 (.i (.n (dif (ls2.getD (j + m) 0) k) 18446744073709551615)) (.h 32 10 (.i (.n (dif (dif (ls2.getD (j + m) 0) k) b) 18446744073709551615)) ((fun (d : Nat) => .h 33 6 (.ix (j + m)) (.cond (.h 35 1 (.i .sub) (.loop [.s 216 (.nat .i64) (.n 137438953472), .s 18 (.nat .u64) (.n 1), .bk 66 (.nat .u32) (.n 4294967295)] (fun ((i3, c3, ls3) : Nat × Nat × List Nat) => AbI y s j (ls2.set (j + m) (d % 4294967296)) i3 c3 ls3) (fun ((i3, c3, ls3) : Nat × Nat × List Nat) => (limbs (y * 2 ^ s)).length - i3) (fun ((i3, c3, ls3) : Nat × Nat × List Nat) => .cond (.h 40 5 (.ix (i3 + j)) (.h 41 6 (.ix (i3 + j)) (.nil))) (.h 44 4 (.ix (j + m)) (.h 44 8 (.i (.n (((ls3.getD (j + m) 0) + c3) % 4294967296) 4294967295)) (.h 44 9 (.ix (j + m)) (.h 45 4 (.ix j) (.nil)))))))) (.h 45 4 (.ix j) (.nil)))) (dif (dif (ls2.getD (j + m) 0) k) b))))))))))))))) (((out.getD (j + m) 0) * 2 ^ 32) + (out.getD (j + m - 1) 0)))))) z.toNat) (.h 46 1 (.s KH) (.loop [.s 262 (.nat .i64) (.n 1099511627776), .bk 66 (.nat .u32) (.n 4294967295)] (fun ((i4, ls4) : Nat × List Nat) => DownI (valL out) s ((limbs x).length + 1) i4 ls4) (fun ((i4, ls4) : Nat × List Nat) => (limbs (valL out)).length - i4) (fun ((i4, ls4) : Nat × List Nat) => .cond (.h 50 5 (.i (.n ((ls4.getD i4 0) / 2 ^ s) 4294967295)) (.cond (.cond (.h 52 10 (.i .sub) (.h 52 11 (.i (.n (((ls4.set i4 ((ls4.getD i4 0) / 2 ^ s)).getD (i4 + 1) 0) * 2 ^ (32 - s) % 4294967296) 4294967295)) (.h 52 12 (.i (.n (((ls4.set i4 ((ls4.getD i4 0) / 2 ^ s)).getD i4 0) + (((ls4.set i4 ((ls4.getD i4 0) / 2 ^ s)).getD (i4 + 1) 0) * 2 ^ (32 - s) % 4294967296)) 4294967295)) (.nil)))) (.nil)) (.nil))) (.pre 54 (.frz 77 true [4, 5, 66]) (.pre 54 (.frz 66 false [4, 5]) (.nil)))))))))) ((limbs (y * 2 ^ s)).length)))) (32 - bl ((limbs y).getD (((limbs y).length) - 1) 0)))))))), kcast (by kernel_rfl) (And.intro (fun (h1 : (limbs y).length = 0) => (absurd (nl0.1 h1) (by omega) : False)) (fun (h2 : ¬ ((limbs y).length = 0)) => And.intro (fun (h3 : cmpN x y < 0) => And.intro ((Nat.div_eq_of_lt (j8.1 (by omega))).symm : 0 = x / y) ((Nat.mod_eq_of_lt (j8.1 (by omega))).symm : x = x % y)) (fun (h4 : ¬ (cmpN x y < 0)) => And.intro (fun (h5 : (limbs y).length = 1) => have hyx := (show y ≤ x from by have := mt j8.2 (show ¬ cmpN x y < 0 by omega); omega); have hl1 := (show (limbs y).length = 1 by omega); have hg0 := qb y 0; have hy1 := (show (limbs y).getD 0 0 = y from by have := vO (x := y) (by omega); rw [hl1] at this; simpa [valL] using this.symm); I (by omega : 0 < (limbs y).length) (I (by omega : 0 < (limbs y).getD 0 0) (I (by intro u hu; simp only [List.mem_cons, List.not_mem_nil, or_false] at hu; subst hu; have := Nat.mod_lt x (show 0 < (limbs y).getD 0 0 by omega); omega : ∀ u ∈ [x % ((limbs y).getD 0 0)], u < 4294967296) (And.intro (by rw [hy1] : x / ((limbs y).getD 0 0) = x / y) (by rw [hy1]; rfl : valL [x % ((limbs y).getD 0 0)] = x % y))))) (fun (h6 : ¬ ((limbs y).length = 1)) => have hyx := (show y ≤ x from by have := mt j8.2 (show ¬ cmpN x y < 0 by omega); omega); have hg0 := qb y ((limbs y).length - 1); have hsd := @L1 _ hg0; have hC0 := DivC.mk' (x := x) (y := y) (by omega) hyx; I (by omega : 1 ≤ (limbs y).length) (I (by omega : ((limbs y).length) - 1 < (limbs y).length) ((fun (s : Nat) (hs : s = 32 - bl ((limbs y).getD (((limbs y).length) - 1) 0)) => have hC := (show DivC x y s from by subst hs; exact hC0); have hss := hC.hs; have hV := hC.hV; have hC2 := hC.h2; have hCx := hC.hyx; I (Br _ _ : ∀ u ∈ padL (y * 2 ^ s) ((limbs y).length + 1), u < 4294967296) (I (AN y s (by omega) : valL (padL (y * 2 ^ s) ((limbs y).length + 1)) = y * 2 ^ s) (I (Nw hx1 (by omega) : lt2 (y * 2 ^ s) 1099511627808) ((fun (m : Nat) (hm : m = (limbs y).length) => have hDt := (show 2147483648 ≤ (limbs (y * 2 ^ s)).getD (m - 1) 0 from by subst hm; exact hC.ht); I (by omega : m ≤ (limbs x).length + 1) (I (by omega : ((limbs x).length + 1) - m = ((limbs x).length + 1) - m) (I (DivZ.start hC (by omega) : DivZ x y s (((((limbs x).length + 1) - m : Nat) : Int) - 1) (padL (x * 2 ^ s) ((limbs x).length + 1)) (List.replicate (((limbs x).length + 1) - m) (0 : Nat))) (fun (z : Int) (out : List Nat) (ql : List Nat) (hb7 : HB [.s 13 (.int .i64) (.n 1099511627776), .bk 66 (.nat .u32) (.n 4294967295), .a 77 (.nat .u32) (.n 4294967295)] (z, out, ql)) (hD : DivZ x y s z out ql) => have hv75 := (show Int.natAbs z ≤ 1099511627776 from hb7.1); have hv76 := (show ∀ u ∈ out, u ≤ 4294967295 from hb7.2.1); have hv77 := (show ∀ u ∈ ql, u ≤ 4294967295 from hb7.2.2); have hDb := hD.b; have hg := (jB (by omega) hD.h.hu : ∀ k, out.getD k 0 < 4294967296); And.intro (fun (h8 : 0 ≤ z) => (fun (j : Nat) (hj : j = z.toNat) => have hz0 := (show 0 ≤ z by omega); have hD1 := hD.at hz0 hj; have hga := hg (j + m); have hgb := hg (j + m - 1); have hgc := hg (j + m - 2); have hva := qb (y * 2 ^ s) (m - 1); have hvb := qb (y * 2 ^ s) (m - 2); I (by omega : z + (m : Int) = ((j + m : Nat) : Int)) (I (by omega : j + m < (limbs x).length + 1) (I (by omega : j + m < out.length) (I (by omega : (z + (m : Int)) - 1 = ((j + m - 1 : Nat) : Int)) (I (by omega : j + m - 1 < (limbs x).length + 1) (I (by omega : j + m - 1 < out.length) (I (AA _ 32 rfl (by omega) (by omega) : qo .or .u64 (((out.getD (j + m) 0) * 2 ^ 32 : Nat) : Int) ((out.getD (j + m - 1) 0 : Nat) : Int) ((((out.getD (j + m) 0) * 2 ^ 32) + (out.getD (j + m - 1) 0) : Nat) : Int)) (I (by omega : ((out.getD (j + m) 0) * 2 ^ 32) + (out.getD (j + m - 1) 0) ≤ 18446744073709551615) ((fun (t : Nat) (ht : t = ((out.getD (j + m) 0) * 2 ^ 32) + (out.getD (j + m - 1) 0)) => I (by omega : 1 ≤ m) (I (by omega : m - 1 < (limbs (y * 2 ^ s)).length) (I (by omega : 0 < (limbs (y * 2 ^ s)).getD (m - 1) 0) (I (by omega : 1 ≤ m) (I (by omega : m - 1 < (limbs (y * 2 ^ s)).length) (I (by omega : 0 < (limbs (y * 2 ^ s)).getD (m - 1) 0) (I (by subst hm; have hE0 := Est.start hC hD1 ht; first | exact hE0.hq | exact Nat.le_of_lt_succ hE0.hr : Bnd (.nat .u64) (.n 4294967297) (t / ((limbs (y * 2 ^ s)).getD (m - 1) 0))) (I (by subst hm; exact Est.start hC hD1 ht : Est x y s j out (t / ((limbs (y * 2 ^ s)).getD (m - 1) 0)) (t % ((limbs (y * 2 ^ s)).getD (m - 1) 0))) (fun (q : Nat) (r : Nat) (hb9 : HB [.s 15 (.nat .u64) (.n 4294967297), .s 16 (.nat .u64) (.n 4294967295)] (q, r)) (hE : Est x y s j out q r) => have hv63 := (show q ≤ 4294967297 from hb9.1); have hv64 := (show r ≤ 4294967295 from hb9.2); have hEq := hE.hq; have hEr := hE.hr; And.intro (fun (h10 : 4294967296 ≤ q) => have hTest := (show 4294967296 ≤ q ∨ r * 4294967296 + out.getD (j + m - 2) 0 < q * (limbs (y * 2 ^ s)).getD (m - 2) 0 from by first | exact .inl (by omega) | exact .inr (by omega)); have hq1 := (show 1 ≤ q from by subst hm; exact (hE.less hC hD1 hTest).2); I (by omega : 1 ≤ q) (I (by omega : 1 ≤ m) (I (by omega : m - 1 < (limbs (y * 2 ^ s)).length) (And.intro (fun (h11 : 4294967296 ≤ r + ((limbs (y * 2 ^ s)).getD (m - 1) 0)) => have hG := (show Dig x y s j out (q - 1) from by subst hm; first | exact hE.brk hC hD1 hTest (by omega) | exact hE.fin hC hD1 (by omega) (by omega)); I (MsI.start hD1.hu : MsI y s j (q - 1) out 0 0 0 out) (fun (i2 : Nat) (b : Nat) (k : Nat) (ls2 : List Nat) (hb12 : HB [.s 156 (.nat .i64) (.n 137438953472), .s 17 (.nat .u64) (.n 1), .s 18 (.nat .u64) (.n 4294967295), .bk 66 (.nat .u32) (.n 4294967295)] (i2, b, k, ls2)) (hM : MsI y s j (q - 1) out i2 k b ls2) => have hv23 := (show i2 ≤ 137438953472 from hb12.1); have hv24 := (show b ≤ 1 from hb12.2.1); have hv25 := (show k ≤ 4294967295 from hb12.2.2.1); have hv26 := (show ∀ u ∈ ls2, u ≤ 4294967295 from hb12.2.2.2); have hMl := hM.hl; have hMi := hM.hi; have hMk := hM.hk; have hMb := hM.hb; have hGq := hG.hq; have hmg := (jB (by omega) hM.hu : ∀ k, ls2.getD k 0 < 4294967296); have hmg0 := hmg (i2 + j); have hmt := hmg (j + m); have hmv := qb (y * 2 ^ s) i2; have hmm := (Nat.mul_le_mul (by omega) (by omega) : (q - 1) * (limbs (y * 2 ^ s)).getD i2 0 ≤ 4294967295 * 4294967295); And.intro (fun (h13 : i2 < (limbs (y * 2 ^ s)).length) => I (by omega : i2 < (limbs (y * 2 ^ s)).length) (I (HG (by omega) : qo .add .u64 (k : Int) (((q - 1) * ((limbs (y * 2 ^ s)).getD i2 0) : Nat) : Int) ((k + ((q - 1) * ((limbs (y * 2 ^ s)).getD i2 0)) : Nat) : Int)) (I (by omega : k + ((q - 1) * ((limbs (y * 2 ^ s)).getD i2 0)) ≤ 18446744073709551615) (I (by omega : (i2 : Int) + z = ((i2 + j : Nat) : Int)) (I (by omega : i2 + j < (limbs x).length + 1) (I (by omega : i2 + j < ls2.length) (I (HH (by omega) : qo .and .u64 ((k + ((q - 1) * ((limbs (y * 2 ^ s)).getD i2 0)) : Nat) : Int) 4294967295 (((k + ((q - 1) * ((limbs (y * 2 ^ s)).getD i2 0))) % 4294967296 : Nat) : Int)) (I (by omega : (k + ((q - 1) * ((limbs (y * 2 ^ s)).getD i2 0))) % 4294967296 ≤ 4294967295) (I (ve (by first | omega | exact vt) (by omega) : qo .sub .u64 ((ls2.getD (i2 + j) 0 : Nat) : Int) (((k + ((q - 1) * ((limbs (y * 2 ^ s)).getD i2 0))) % 4294967296 : Nat) : Int) ((dif (ls2.getD (i2 + j) 0) ((k + ((q - 1) * ((limbs (y * 2 ^ s)).getD i2 0))) % 4294967296) : Nat) : Int)) (I (jW _ _ : dif (ls2.getD (i2 + j) 0) ((k + ((q - 1) * ((limbs (y * 2 ^ s)).getD i2 0))) % 4294967296) ≤ 18446744073709551615) (I (ve (by first | omega | exact vt) (by omega) : qo .sub .u64 ((dif (ls2.getD (i2 + j) 0) ((k + ((q - 1) * ((limbs (y * 2 ^ s)).getD i2 0))) % 4294967296) : Nat) : Int) (b : Int) ((dif (dif (ls2.getD (i2 + j) 0) ((k + ((q - 1) * ((limbs (y * 2 ^ s)).getD i2 0))) % 4294967296)) b : Nat) : Int)) (I (jW _ _ : dif (dif (ls2.getD (i2 + j) 0) ((k + ((q - 1) * ((limbs (y * 2 ^ s)).getD i2 0))) % 4294967296)) b ≤ 18446744073709551615) (I (by omega : (i2 : Int) + z = ((i2 + j : Nat) : Int)) (I (by omega : i2 + j < (limbs x).length + 1) (I (by omega : i2 + j < ls2.length) (I (show (i2 + 1) ≤ 137438953472 by omega : Bnd (.nat .i64) (.n 137438953472) (i2 + 1)) (And.intro ((hM.step (by omega) (by omega) hG.hq rfl rfl).1 : MsI y s j (q - 1) out (i2 + 1) ((k + ((q - 1) * ((limbs (y * 2 ^ s)).getD i2 0))) / 2 ^ 32) ((dif (dif (ls2.getD (i2 + j) 0) ((k + ((q - 1) * ((limbs (y * 2 ^ s)).getD i2 0))) % 4294967296)) b) / 2 ^ 63) (ls2.set (i2 + j) ((dif (dif (ls2.getD (i2 + j) 0) ((k + ((q - 1) * ((limbs (y * 2 ^ s)).getD i2 0))) % 4294967296)) b) % 4294967296))) (by omega : (limbs (y * 2 ^ s)).length - (i2 + 1) < (limbs (y * 2 ^ s)).length - i2)))))))))))))))))) (fun (h14 : ¬ (i2 < (limbs (y * 2 ^ s)).length)) => have hM1 := (show i2 = m by omega) ▸ hM; I (by omega : z + (m : Int) = ((j + m : Nat) : Int)) (I (by omega : j + m < (limbs x).length + 1) (I (by omega : j + m < ls2.length) (I (ve (by first | omega | exact vt) (by omega) : qo .sub .u64 ((ls2.getD (j + m) 0 : Nat) : Int) (k : Int) ((dif (ls2.getD (j + m) 0) k : Nat) : Int)) (I (jW _ _ : dif (ls2.getD (j + m) 0) k ≤ 18446744073709551615) (I (ve (by first | omega | exact vt) (by omega) : qo .sub .u64 ((dif (ls2.getD (j + m) 0) k : Nat) : Int) (b : Int) ((dif (dif (ls2.getD (j + m) 0) k) b : Nat) : Int)) (I (jW _ _ : dif (dif (ls2.getD (j + m) 0) k) b ≤ 18446744073709551615) ((fun (d : Nat) (hd : d = dif (dif (ls2.getD (j + m) 0) k) b) => I (by omega : z + (m : Int) = ((j + m : Nat) : Int)) (I (by omega : j + m < (limbs x).length + 1) (I (by omega : j + m < ls2.length) (have hT := MsI.top hM1 (by omega) (by omega) hd; have hT1 := hT.1; have hT2 := hT.2.1; have hT3 := hT.2.2.1; have hT4 := hT.2.2.2.1; have hT5 := hT.2.2.2.2; And.intro (fun (h15 : d / 2 ^ 63 ≠ 0) => have hd1 := (show d / 9223372036854775808 = 1 by omega); have hT1 := (show _ from by rw [hd1] at hT1; exact hT1); have hq1 := (show 1 ≤ (q - 1) from by subst hm; exact Dig.pos hC hD1 hT4 hT5 hT1); I (by omega : 1 ≤ q - 1) (I (AbI.start hT5 : AbI y s j (ls2.set (j + m) (d % 4294967296)) 0 0 (ls2.set (j + m) (d % 4294967296))) (fun (i3 : Nat) (c3 : Nat) (ls3 : List Nat) (hb16 : HB [.s 216 (.nat .i64) (.n 137438953472), .s 18 (.nat .u64) (.n 1), .bk 66 (.nat .u32) (.n 4294967295)] (i3, c3, ls3)) (hB : AbI y s j (ls2.set (j + m) (d % 4294967296)) i3 c3 ls3) => have hv19 := (show i3 ≤ 137438953472 from hb16.1); have hv20 := (show c3 ≤ 1 from hb16.2.1); have hv21 := (show ∀ u ∈ ls3, u ≤ 4294967295 from hb16.2.2); have hBl := hB.hl; have hBi := hB.hi; have hBc := hB.hc; have hbg := (jB (by omega) hB.hu : ∀ k, ls3.getD k 0 < 4294967296); have hbg0 := hbg (i3 + j); have hbt := hbg (j + m); have hbv := qb (y * 2 ^ s) i3; And.intro (fun (h17 : i3 < (limbs (y * 2 ^ s)).length) => I (by omega : i3 < (limbs (y * 2 ^ s)).length) (I (by omega : (i3 : Int) + z = ((i3 + j : Nat) : Int)) (I (by omega : i3 + j < (limbs x).length + 1) (I (by omega : i3 + j < ls3.length) (I (by omega : (i3 : Int) + z = ((i3 + j : Nat) : Int)) (I (by omega : i3 + j < (limbs x).length + 1) (I (by omega : i3 + j < ls3.length) (I (show (i3 + 1) ≤ 137438953472 by omega : Bnd (.nat .i64) (.n 137438953472) (i3 + 1)) (And.intro (hB.step (by omega) (by omega) rfl : AbI y s j (ls2.set (j + m) (d % 4294967296)) (i3 + 1) ((c3 + ((ls3.getD (i3 + j) 0) + ((limbs (y * 2 ^ s)).getD i3 0))) / 2 ^ 32) (ls3.set (i3 + j) ((c3 + ((ls3.getD (i3 + j) 0) + ((limbs (y * 2 ^ s)).getD i3 0))) % 4294967296))) (by omega : (limbs (y * 2 ^ s)).length - (i3 + 1) < (limbs (y * 2 ^ s)).length - i3)))))))))) (fun (h18 : ¬ (i3 < (limbs (y * 2 ^ s)).length)) => have hB1 := (show i3 = m by omega) ▸ hB; I (by omega : z + (m : Int) = ((j + m : Nat) : Int)) (I (by omega : j + m < (limbs x).length + 1) (I (by omega : j + m < ls3.length) (I (FL _ _ : qo .add .u32 ((ls3.getD (j + m) 0 : Nat) : Int) (c3 : Int) ((((ls3.getD (j + m) 0) + c3) % 4294967296 : Nat) : Int)) (I (by omega : ((ls3.getD (j + m) 0) + c3) % 4294967296 ≤ 4294967295) (I (by omega : z + (m : Int) = ((j + m : Nat) : Int)) (I (by omega : j + m < (limbs x).length + 1) (I (by omega : j + m < ls3.length) (have hA := AbI.top' hB1 (by omega) (by omega); I (by omega : z = (j : Int)) (I (by omega : j < ((limbs x).length + 1) - m) (I (by omega : j < ql.length) (I (show Int.natAbs (z - 1) ≤ 1099511627776 by omega : Bnd (.int .i64) (.n 1099511627776) (z - 1)) (And.intro (by subst hm; first | exact DivZ.of hz0 hj (hD1.even hC hG hT4 hT5 hT3 (by rw [show d / 9223372036854775808 = 0 by omega, Nat.mul_zero, Nat.add_zero] at hT1; exact hT1)) | exact DivZ.of hz0 hj (hA.elim fun c2 hA => hD1.odd hC hG hT4 hT5 hT3 hT1 hA.2.2.1 hA.2.2.2 hA.2.1 hA.1) : DivZ x y s (z - 1) (ls3.set (j + m) (((ls3.getD (j + m) 0) + c3) % 4294967296)) (ql.set j (((q - 1) - 1) % 4294967296))) (by omega : ((z - 1) + 1).toNat < (z + 1).toNat))))))))))))))))) (fun (h22 : ¬ (d / 2 ^ 63 ≠ 0)) => I (by omega : z = (j : Int)) (I (by omega : j < ((limbs x).length + 1) - m) (I (by omega : j < ql.length) (I (show Int.natAbs (z - 1) ≤ 1099511627776 by omega : Bnd (.int .i64) (.n 1099511627776) (z - 1)) (And.intro (by subst hm; first | exact DivZ.of hz0 hj (hD1.even hC hG hT4 hT5 hT3 (by rw [show d / 9223372036854775808 = 0 by omega, Nat.mul_zero, Nat.add_zero] at hT1; exact hT1)) | exact DivZ.of hz0 hj (hA.elim fun c2 hA => hD1.odd hC hG hT4 hT5 hT3 hT1 hA.2.2.1 hA.2.2.2 hA.2.1 hA.1) : DivZ x y s (z - 1) (ls2.set (j + m) (d % 4294967296)) (ql.set j ((q - 1) % 4294967296))) (by omega : ((z - 1) + 1).toNat < (z + 1).toNat)))))))))) (dif (dif (ls2.getD (j + m) 0) k) b) rfl)))))))))) (fun (h27 : ¬ (4294967296 ≤ r + ((limbs (y * 2 ^ s)).getD (m - 1) 0))) => I (show (r + ((limbs (y * 2 ^ s)).getD (m - 1) 0)) ≤ 4294967295 by omega : Bnd (.nat .u64) (.n 4294967295) (r + ((limbs (y * 2 ^ s)).getD (m - 1) 0))) (And.intro (by subst hm; exact hE.step hC hD1 hTest (by omega) : Est x y s j out (q - 1) (r + ((limbs (y * 2 ^ s)).getD (m - 1) 0))) (by omega : q - 1 < q))))))) (fun (h28 : ¬ (4294967296 ≤ q)) => I (by omega : 2 ≤ m) (I (by omega : m - 2 < (limbs (y * 2 ^ s)).length) (I (by omega : (z + (m : Int)) - 2 = ((j + m - 2 : Nat) : Int)) (I (by omega : j + m - 2 < (limbs x).length + 1) (I (by omega : j + m - 2 < out.length) (I (AA _ 32 rfl (hg _) (by have := hg (j + m - 2); omega) : qo .or .u64 ((r * 2 ^ 32 : Nat) : Int) ((out.getD (j + m - 2) 0 : Nat) : Int) (((r * 2 ^ 32) + (out.getD (j + m - 2) 0) : Nat) : Int)) (I (by have := hg (j + m - 2); omega : (r * 2 ^ 32) + (out.getD (j + m - 2) 0) ≤ 18446744073709551615) (And.intro (fun (h29 : (r * 2 ^ 32) + (out.getD (j + m - 2) 0) < q * ((limbs (y * 2 ^ s)).getD (m - 2) 0)) => have hTest := (show 4294967296 ≤ q ∨ r * 4294967296 + out.getD (j + m - 2) 0 < q * (limbs (y * 2 ^ s)).getD (m - 2) 0 from by first | exact .inl (by omega) | exact .inr (by omega)); have hq1 := (show 1 ≤ q from by subst hm; exact (hE.less hC hD1 hTest).2); I (by omega : 1 ≤ q) (I (by omega : 1 ≤ m) (I (by omega : m - 1 < (limbs (y * 2 ^ s)).length) (And.intro (fun (h30 : 4294967296 ≤ r + ((limbs (y * 2 ^ s)).getD (m - 1) 0)) => have hG := (show Dig x y s j out (q - 1) from by subst hm; first | exact hE.brk hC hD1 hTest (by omega) | exact hE.fin hC hD1 (by omega) (by omega)); I (MsI.start hD1.hu : MsI y s j (q - 1) out 0 0 0 out) (fun (i2 : Nat) (b : Nat) (k : Nat) (ls2 : List Nat) (hb31 : HB [.s 156 (.nat .i64) (.n 137438953472), .s 17 (.nat .u64) (.n 1), .s 18 (.nat .u64) (.n 4294967295), .bk 66 (.nat .u32) (.n 4294967295)] (i2, b, k, ls2)) (hM : MsI y s j (q - 1) out i2 k b ls2) => have hv42 := (show i2 ≤ 137438953472 from hb31.1); have hv43 := (show b ≤ 1 from hb31.2.1); have hv44 := (show k ≤ 4294967295 from hb31.2.2.1); have hv45 := (show ∀ u ∈ ls2, u ≤ 4294967295 from hb31.2.2.2); have hMl := hM.hl; have hMi := hM.hi; have hMk := hM.hk; have hMb := hM.hb; have hGq := hG.hq; have hmg := (jB (by omega) hM.hu : ∀ k, ls2.getD k 0 < 4294967296); have hmg0 := hmg (i2 + j); have hmt := hmg (j + m); have hmv := qb (y * 2 ^ s) i2; have hmm := (Nat.mul_le_mul (by omega) (by omega) : (q - 1) * (limbs (y * 2 ^ s)).getD i2 0 ≤ 4294967295 * 4294967295); And.intro (fun (h32 : i2 < (limbs (y * 2 ^ s)).length) => I (by omega : i2 < (limbs (y * 2 ^ s)).length) (I (HG (by omega) : qo .add .u64 (k : Int) (((q - 1) * ((limbs (y * 2 ^ s)).getD i2 0) : Nat) : Int) ((k + ((q - 1) * ((limbs (y * 2 ^ s)).getD i2 0)) : Nat) : Int)) (I (by omega : k + ((q - 1) * ((limbs (y * 2 ^ s)).getD i2 0)) ≤ 18446744073709551615) (I (by omega : (i2 : Int) + z = ((i2 + j : Nat) : Int)) (I (by omega : i2 + j < (limbs x).length + 1) (I (by omega : i2 + j < ls2.length) (I (HH (by omega) : qo .and .u64 ((k + ((q - 1) * ((limbs (y * 2 ^ s)).getD i2 0)) : Nat) : Int) 4294967295 (((k + ((q - 1) * ((limbs (y * 2 ^ s)).getD i2 0))) % 4294967296 : Nat) : Int)) (I (by omega : (k + ((q - 1) * ((limbs (y * 2 ^ s)).getD i2 0))) % 4294967296 ≤ 4294967295) (I (ve (by first | omega | exact vt) (by omega) : qo .sub .u64 ((ls2.getD (i2 + j) 0 : Nat) : Int) (((k + ((q - 1) * ((limbs (y * 2 ^ s)).getD i2 0))) % 4294967296 : Nat) : Int) ((dif (ls2.getD (i2 + j) 0) ((k + ((q - 1) * ((limbs (y * 2 ^ s)).getD i2 0))) % 4294967296) : Nat) : Int)) (I (jW _ _ : dif (ls2.getD (i2 + j) 0) ((k + ((q - 1) * ((limbs (y * 2 ^ s)).getD i2 0))) % 4294967296) ≤ 18446744073709551615) (I (ve (by first | omega | exact vt) (by omega) : qo .sub .u64 ((dif (ls2.getD (i2 + j) 0) ((k + ((q - 1) * ((limbs (y * 2 ^ s)).getD i2 0))) % 4294967296) : Nat) : Int) (b : Int) ((dif (dif (ls2.getD (i2 + j) 0) ((k + ((q - 1) * ((limbs (y * 2 ^ s)).getD i2 0))) % 4294967296)) b : Nat) : Int)) (I (jW _ _ : dif (dif (ls2.getD (i2 + j) 0) ((k + ((q - 1) * ((limbs (y * 2 ^ s)).getD i2 0))) % 4294967296)) b ≤ 18446744073709551615) (I (by omega : (i2 : Int) + z = ((i2 + j : Nat) : Int)) (I (by omega : i2 + j < (limbs x).length + 1) (I (by omega : i2 + j < ls2.length) (I (show (i2 + 1) ≤ 137438953472 by omega : Bnd (.nat .i64) (.n 137438953472) (i2 + 1)) (And.intro ((hM.step (by omega) (by omega) hG.hq rfl rfl).1 : MsI y s j (q - 1) out (i2 + 1) ((k + ((q - 1) * ((limbs (y * 2 ^ s)).getD i2 0))) / 2 ^ 32) ((dif (dif (ls2.getD (i2 + j) 0) ((k + ((q - 1) * ((limbs (y * 2 ^ s)).getD i2 0))) % 4294967296)) b) / 2 ^ 63) (ls2.set (i2 + j) ((dif (dif (ls2.getD (i2 + j) 0) ((k + ((q - 1) * ((limbs (y * 2 ^ s)).getD i2 0))) % 4294967296)) b) % 4294967296))) (by omega : (limbs (y * 2 ^ s)).length - (i2 + 1) < (limbs (y * 2 ^ s)).length - i2)))))))))))))))))) (fun (h33 : ¬ (i2 < (limbs (y * 2 ^ s)).length)) => have hM1 := (show i2 = m by omega) ▸ hM; I (by omega : z + (m : Int) = ((j + m : Nat) : Int)) (I (by omega : j + m < (limbs x).length + 1) (I (by omega : j + m < ls2.length) (I (ve (by first | omega | exact vt) (by omega) : qo .sub .u64 ((ls2.getD (j + m) 0 : Nat) : Int) (k : Int) ((dif (ls2.getD (j + m) 0) k : Nat) : Int)) (I (jW _ _ : dif (ls2.getD (j + m) 0) k ≤ 18446744073709551615) (I (ve (by first | omega | exact vt) (by omega) : qo .sub .u64 ((dif (ls2.getD (j + m) 0) k : Nat) : Int) (b : Int) ((dif (dif (ls2.getD (j + m) 0) k) b : Nat) : Int)) (I (jW _ _ : dif (dif (ls2.getD (j + m) 0) k) b ≤ 18446744073709551615) ((fun (d : Nat) (hd : d = dif (dif (ls2.getD (j + m) 0) k) b) => I (by omega : z + (m : Int) = ((j + m : Nat) : Int)) (I (by omega : j + m < (limbs x).length + 1) (I (by omega : j + m < ls2.length) (have hT := MsI.top hM1 (by omega) (by omega) hd; have hT1 := hT.1; have hT2 := hT.2.1; have hT3 := hT.2.2.1; have hT4 := hT.2.2.2.1; have hT5 := hT.2.2.2.2; And.intro (fun (h34 : d / 2 ^ 63 ≠ 0) => have hd1 := (show d / 9223372036854775808 = 1 by omega); have hT1 := (show _ from by rw [hd1] at hT1; exact hT1); have hq1 := (show 1 ≤ (q - 1) from by subst hm; exact Dig.pos hC hD1 hT4 hT5 hT1); I (by omega : 1 ≤ q - 1) (I (AbI.start hT5 : AbI y s j (ls2.set (j + m) (d % 4294967296)) 0 0 (ls2.set (j + m) (d % 4294967296))) (fun (i3 : Nat) (c3 : Nat) (ls3 : List Nat) (hb35 : HB [.s 216 (.nat .i64) (.n 137438953472), .s 18 (.nat .u64) (.n 1), .bk 66 (.nat .u32) (.n 4294967295)] (i3, c3, ls3)) (hB : AbI y s j (ls2.set (j + m) (d % 4294967296)) i3 c3 ls3) => have hv38 := (show i3 ≤ 137438953472 from hb35.1); have hv39 := (show c3 ≤ 1 from hb35.2.1); have hv40 := (show ∀ u ∈ ls3, u ≤ 4294967295 from hb35.2.2); have hBl := hB.hl; have hBi := hB.hi; have hBc := hB.hc; have hbg := (jB (by omega) hB.hu : ∀ k, ls3.getD k 0 < 4294967296); have hbg0 := hbg (i3 + j); have hbt := hbg (j + m); have hbv := qb (y * 2 ^ s) i3; And.intro (fun (h36 : i3 < (limbs (y * 2 ^ s)).length) => I (by omega : i3 < (limbs (y * 2 ^ s)).length) (I (by omega : (i3 : Int) + z = ((i3 + j : Nat) : Int)) (I (by omega : i3 + j < (limbs x).length + 1) (I (by omega : i3 + j < ls3.length) (I (by omega : (i3 : Int) + z = ((i3 + j : Nat) : Int)) (I (by omega : i3 + j < (limbs x).length + 1) (I (by omega : i3 + j < ls3.length) (I (show (i3 + 1) ≤ 137438953472 by omega : Bnd (.nat .i64) (.n 137438953472) (i3 + 1)) (And.intro (hB.step (by omega) (by omega) rfl : AbI y s j (ls2.set (j + m) (d % 4294967296)) (i3 + 1) ((c3 + ((ls3.getD (i3 + j) 0) + ((limbs (y * 2 ^ s)).getD i3 0))) / 2 ^ 32) (ls3.set (i3 + j) ((c3 + ((ls3.getD (i3 + j) 0) + ((limbs (y * 2 ^ s)).getD i3 0))) % 4294967296))) (by omega : (limbs (y * 2 ^ s)).length - (i3 + 1) < (limbs (y * 2 ^ s)).length - i3)))))))))) (fun (h37 : ¬ (i3 < (limbs (y * 2 ^ s)).length)) => have hB1 := (show i3 = m by omega) ▸ hB; I (by omega : z + (m : Int) = ((j + m : Nat) : Int)) (I (by omega : j + m < (limbs x).length + 1) (I (by omega : j + m < ls3.length) (I (FL _ _ : qo .add .u32 ((ls3.getD (j + m) 0 : Nat) : Int) (c3 : Int) ((((ls3.getD (j + m) 0) + c3) % 4294967296 : Nat) : Int)) (I (by omega : ((ls3.getD (j + m) 0) + c3) % 4294967296 ≤ 4294967295) (I (by omega : z + (m : Int) = ((j + m : Nat) : Int)) (I (by omega : j + m < (limbs x).length + 1) (I (by omega : j + m < ls3.length) (have hA := AbI.top' hB1 (by omega) (by omega); I (by omega : z = (j : Int)) (I (by omega : j < ((limbs x).length + 1) - m) (I (by omega : j < ql.length) (I (show Int.natAbs (z - 1) ≤ 1099511627776 by omega : Bnd (.int .i64) (.n 1099511627776) (z - 1)) (And.intro (by subst hm; first | exact DivZ.of hz0 hj (hD1.even hC hG hT4 hT5 hT3 (by rw [show d / 9223372036854775808 = 0 by omega, Nat.mul_zero, Nat.add_zero] at hT1; exact hT1)) | exact DivZ.of hz0 hj (hA.elim fun c2 hA => hD1.odd hC hG hT4 hT5 hT3 hT1 hA.2.2.1 hA.2.2.2 hA.2.1 hA.1) : DivZ x y s (z - 1) (ls3.set (j + m) (((ls3.getD (j + m) 0) + c3) % 4294967296)) (ql.set j (((q - 1) - 1) % 4294967296))) (by omega : ((z - 1) + 1).toNat < (z + 1).toNat))))))))))))))))) (fun (h41 : ¬ (d / 2 ^ 63 ≠ 0)) => I (by omega : z = (j : Int)) (I (by omega : j < ((limbs x).length + 1) - m) (I (by omega : j < ql.length) (I (show Int.natAbs (z - 1) ≤ 1099511627776 by omega : Bnd (.int .i64) (.n 1099511627776) (z - 1)) (And.intro (by subst hm; first | exact DivZ.of hz0 hj (hD1.even hC hG hT4 hT5 hT3 (by rw [show d / 9223372036854775808 = 0 by omega, Nat.mul_zero, Nat.add_zero] at hT1; exact hT1)) | exact DivZ.of hz0 hj (hA.elim fun c2 hA => hD1.odd hC hG hT4 hT5 hT3 hT1 hA.2.2.1 hA.2.2.2 hA.2.1 hA.1) : DivZ x y s (z - 1) (ls2.set (j + m) (d % 4294967296)) (ql.set j ((q - 1) % 4294967296))) (by omega : ((z - 1) + 1).toNat < (z + 1).toNat)))))))))) (dif (dif (ls2.getD (j + m) 0) k) b) rfl)))))))))) (fun (h46 : ¬ (4294967296 ≤ r + ((limbs (y * 2 ^ s)).getD (m - 1) 0))) => I (show (r + ((limbs (y * 2 ^ s)).getD (m - 1) 0)) ≤ 4294967295 by omega : Bnd (.nat .u64) (.n 4294967295) (r + ((limbs (y * 2 ^ s)).getD (m - 1) 0))) (And.intro (by subst hm; exact hE.step hC hD1 hTest (by omega) : Est x y s j out (q - 1) (r + ((limbs (y * 2 ^ s)).getD (m - 1) 0))) (by omega : q - 1 < q))))))) (fun (h47 : ¬ ((r * 2 ^ 32) + (out.getD (j + m - 2) 0) < q * ((limbs (y * 2 ^ s)).getD (m - 2) 0))) => have hG := (show Dig x y s j out q from by subst hm; first | exact hE.brk hC hD1 hTest (by omega) | exact hE.fin hC hD1 (by omega) (by omega)); I (MsI.start hD1.hu : MsI y s j q out 0 0 0 out) (fun (i2 : Nat) (b : Nat) (k : Nat) (ls2 : List Nat) (hb48 : HB [.s 156 (.nat .i64) (.n 137438953472), .s 17 (.nat .u64) (.n 1), .s 18 (.nat .u64) (.n 4294967295), .bk 66 (.nat .u32) (.n 4294967295)] (i2, b, k, ls2)) (hM : MsI y s j q out i2 k b ls2) => have hv59 := (show i2 ≤ 137438953472 from hb48.1); have hv60 := (show b ≤ 1 from hb48.2.1); have hv61 := (show k ≤ 4294967295 from hb48.2.2.1); have hv62 := (show ∀ u ∈ ls2, u ≤ 4294967295 from hb48.2.2.2); have hMl := hM.hl; have hMi := hM.hi; have hMk := hM.hk; have hMb := hM.hb; have hGq := hG.hq; have hmg := (jB (by omega) hM.hu : ∀ k, ls2.getD k 0 < 4294967296); have hmg0 := hmg (i2 + j); have hmt := hmg (j + m); have hmv := qb (y * 2 ^ s) i2; have hmm := (Nat.mul_le_mul (by omega) (by omega) : q * (limbs (y * 2 ^ s)).getD i2 0 ≤ 4294967295 * 4294967295); And.intro (fun (h49 : i2 < (limbs (y * 2 ^ s)).length) => I (by omega : i2 < (limbs (y * 2 ^ s)).length) (I (HG (by omega) : qo .add .u64 (k : Int) ((q * ((limbs (y * 2 ^ s)).getD i2 0) : Nat) : Int) ((k + (q * ((limbs (y * 2 ^ s)).getD i2 0)) : Nat) : Int)) (I (by omega : k + (q * ((limbs (y * 2 ^ s)).getD i2 0)) ≤ 18446744073709551615) (I (by omega : (i2 : Int) + z = ((i2 + j : Nat) : Int)) (I (by omega : i2 + j < (limbs x).length + 1) (I (by omega : i2 + j < ls2.length) (I (HH (by omega) : qo .and .u64 ((k + (q * ((limbs (y * 2 ^ s)).getD i2 0)) : Nat) : Int) 4294967295 (((k + (q * ((limbs (y * 2 ^ s)).getD i2 0))) % 4294967296 : Nat) : Int)) (I (by omega : (k + (q * ((limbs (y * 2 ^ s)).getD i2 0))) % 4294967296 ≤ 4294967295) (I (ve (by first | omega | exact vt) (by omega) : qo .sub .u64 ((ls2.getD (i2 + j) 0 : Nat) : Int) (((k + (q * ((limbs (y * 2 ^ s)).getD i2 0))) % 4294967296 : Nat) : Int) ((dif (ls2.getD (i2 + j) 0) ((k + (q * ((limbs (y * 2 ^ s)).getD i2 0))) % 4294967296) : Nat) : Int)) (I (jW _ _ : dif (ls2.getD (i2 + j) 0) ((k + (q * ((limbs (y * 2 ^ s)).getD i2 0))) % 4294967296) ≤ 18446744073709551615) (I (ve (by first | omega | exact vt) (by omega) : qo .sub .u64 ((dif (ls2.getD (i2 + j) 0) ((k + (q * ((limbs (y * 2 ^ s)).getD i2 0))) % 4294967296) : Nat) : Int) (b : Int) ((dif (dif (ls2.getD (i2 + j) 0) ((k + (q * ((limbs (y * 2 ^ s)).getD i2 0))) % 4294967296)) b : Nat) : Int)) (I (jW _ _ : dif (dif (ls2.getD (i2 + j) 0) ((k + (q * ((limbs (y * 2 ^ s)).getD i2 0))) % 4294967296)) b ≤ 18446744073709551615) (I (by omega : (i2 : Int) + z = ((i2 + j : Nat) : Int)) (I (by omega : i2 + j < (limbs x).length + 1) (I (by omega : i2 + j < ls2.length) (I (show (i2 + 1) ≤ 137438953472 by omega : Bnd (.nat .i64) (.n 137438953472) (i2 + 1)) (And.intro ((hM.step (by omega) (by omega) hG.hq rfl rfl).1 : MsI y s j q out (i2 + 1) ((k + (q * ((limbs (y * 2 ^ s)).getD i2 0))) / 2 ^ 32) ((dif (dif (ls2.getD (i2 + j) 0) ((k + (q * ((limbs (y * 2 ^ s)).getD i2 0))) % 4294967296)) b) / 2 ^ 63) (ls2.set (i2 + j) ((dif (dif (ls2.getD (i2 + j) 0) ((k + (q * ((limbs (y * 2 ^ s)).getD i2 0))) % 4294967296)) b) % 4294967296))) (by omega : (limbs (y * 2 ^ s)).length - (i2 + 1) < (limbs (y * 2 ^ s)).length - i2)))))))))))))))))) (fun (h50 : ¬ (i2 < (limbs (y * 2 ^ s)).length)) => have hM1 := (show i2 = m by omega) ▸ hM; I (by omega : z + (m : Int) = ((j + m : Nat) : Int)) (I (by omega : j + m < (limbs x).length + 1) (I (by omega : j + m < ls2.length) (I (ve (by first | omega | exact vt) (by omega) : qo .sub .u64 ((ls2.getD (j + m) 0 : Nat) : Int) (k : Int) ((dif (ls2.getD (j + m) 0) k : Nat) : Int)) (I (jW _ _ : dif (ls2.getD (j + m) 0) k ≤ 18446744073709551615) (I (ve (by first | omega | exact vt) (by omega) : qo .sub .u64 ((dif (ls2.getD (j + m) 0) k : Nat) : Int) (b : Int) ((dif (dif (ls2.getD (j + m) 0) k) b : Nat) : Int)) (I (jW _ _ : dif (dif (ls2.getD (j + m) 0) k) b ≤ 18446744073709551615) ((fun (d : Nat) (hd : d = dif (dif (ls2.getD (j + m) 0) k) b) => I (by omega : z + (m : Int) = ((j + m : Nat) : Int)) (I (by omega : j + m < (limbs x).length + 1) (I (by omega : j + m < ls2.length) (have hT := MsI.top hM1 (by omega) (by omega) hd; have hT1 := hT.1; have hT2 := hT.2.1; have hT3 := hT.2.2.1; have hT4 := hT.2.2.2.1; have hT5 := hT.2.2.2.2; And.intro (fun (h51 : d / 2 ^ 63 ≠ 0) => have hd1 := (show d / 9223372036854775808 = 1 by omega); have hT1 := (show _ from by rw [hd1] at hT1; exact hT1); have hq1 := (show 1 ≤ q from by subst hm; exact Dig.pos hC hD1 hT4 hT5 hT1); I (by omega : 1 ≤ q) (I (AbI.start hT5 : AbI y s j (ls2.set (j + m) (d % 4294967296)) 0 0 (ls2.set (j + m) (d % 4294967296))) (fun (i3 : Nat) (c3 : Nat) (ls3 : List Nat) (hb52 : HB [.s 216 (.nat .i64) (.n 137438953472), .s 18 (.nat .u64) (.n 1), .bk 66 (.nat .u32) (.n 4294967295)] (i3, c3, ls3)) (hB : AbI y s j (ls2.set (j + m) (d % 4294967296)) i3 c3 ls3) => have hv55 := (show i3 ≤ 137438953472 from hb52.1); have hv56 := (show c3 ≤ 1 from hb52.2.1); have hv57 := (show ∀ u ∈ ls3, u ≤ 4294967295 from hb52.2.2); have hBl := hB.hl; have hBi := hB.hi; have hBc := hB.hc; have hbg := (jB (by omega) hB.hu : ∀ k, ls3.getD k 0 < 4294967296); have hbg0 := hbg (i3 + j); have hbt := hbg (j + m); have hbv := qb (y * 2 ^ s) i3; And.intro (fun (h53 : i3 < (limbs (y * 2 ^ s)).length) => I (by omega : i3 < (limbs (y * 2 ^ s)).length) (I (by omega : (i3 : Int) + z = ((i3 + j : Nat) : Int)) (I (by omega : i3 + j < (limbs x).length + 1) (I (by omega : i3 + j < ls3.length) (I (by omega : (i3 : Int) + z = ((i3 + j : Nat) : Int)) (I (by omega : i3 + j < (limbs x).length + 1) (I (by omega : i3 + j < ls3.length) (I (show (i3 + 1) ≤ 137438953472 by omega : Bnd (.nat .i64) (.n 137438953472) (i3 + 1)) (And.intro (hB.step (by omega) (by omega) rfl : AbI y s j (ls2.set (j + m) (d % 4294967296)) (i3 + 1) ((c3 + ((ls3.getD (i3 + j) 0) + ((limbs (y * 2 ^ s)).getD i3 0))) / 2 ^ 32) (ls3.set (i3 + j) ((c3 + ((ls3.getD (i3 + j) 0) + ((limbs (y * 2 ^ s)).getD i3 0))) % 4294967296))) (by omega : (limbs (y * 2 ^ s)).length - (i3 + 1) < (limbs (y * 2 ^ s)).length - i3)))))))))) (fun (h54 : ¬ (i3 < (limbs (y * 2 ^ s)).length)) => have hB1 := (show i3 = m by omega) ▸ hB; I (by omega : z + (m : Int) = ((j + m : Nat) : Int)) (I (by omega : j + m < (limbs x).length + 1) (I (by omega : j + m < ls3.length) (I (FL _ _ : qo .add .u32 ((ls3.getD (j + m) 0 : Nat) : Int) (c3 : Int) ((((ls3.getD (j + m) 0) + c3) % 4294967296 : Nat) : Int)) (I (by omega : ((ls3.getD (j + m) 0) + c3) % 4294967296 ≤ 4294967295) (I (by omega : z + (m : Int) = ((j + m : Nat) : Int)) (I (by omega : j + m < (limbs x).length + 1) (I (by omega : j + m < ls3.length) (have hA := AbI.top' hB1 (by omega) (by omega); I (by omega : z = (j : Int)) (I (by omega : j < ((limbs x).length + 1) - m) (I (by omega : j < ql.length) (I (show Int.natAbs (z - 1) ≤ 1099511627776 by omega : Bnd (.int .i64) (.n 1099511627776) (z - 1)) (And.intro (by subst hm; first | exact DivZ.of hz0 hj (hD1.even hC hG hT4 hT5 hT3 (by rw [show d / 9223372036854775808 = 0 by omega, Nat.mul_zero, Nat.add_zero] at hT1; exact hT1)) | exact DivZ.of hz0 hj (hA.elim fun c2 hA => hD1.odd hC hG hT4 hT5 hT3 hT1 hA.2.2.1 hA.2.2.2 hA.2.1 hA.1) : DivZ x y s (z - 1) (ls3.set (j + m) (((ls3.getD (j + m) 0) + c3) % 4294967296)) (ql.set j ((q - 1) % 4294967296))) (by omega : ((z - 1) + 1).toNat < (z + 1).toNat))))))))))))))))) (fun (h58 : ¬ (d / 2 ^ 63 ≠ 0)) => I (by omega : z = (j : Int)) (I (by omega : j < ((limbs x).length + 1) - m) (I (by omega : j < ql.length) (I (show Int.natAbs (z - 1) ≤ 1099511627776 by omega : Bnd (.int .i64) (.n 1099511627776) (z - 1)) (And.intro (by subst hm; first | exact DivZ.of hz0 hj (hD1.even hC hG hT4 hT5 hT3 (by rw [show d / 9223372036854775808 = 0 by omega, Nat.mul_zero, Nat.add_zero] at hT1; exact hT1)) | exact DivZ.of hz0 hj (hA.elim fun c2 hA => hD1.odd hC hG hT4 hT5 hT3 hT1 hA.2.2.1 hA.2.2.2 hA.2.1 hA.1) : DivZ x y s (z - 1) (ls2.set (j + m) (d % 4294967296)) (ql.set j (q % 4294967296))) (by omega : ((z - 1) + 1).toNat < (z + 1).toNat)))))))))) (dif (dif (ls2.getD (j + m) 0) k) b) rfl))))))))))))))))))))))))))) (((out.getD (j + m) 0) * 2 ^ 32) + (out.getD (j + m - 1) 0)) rfl))))))))) z.toNat rfl) (fun (h65 : ¬ (0 ≤ z)) => have hF := hD.fin (by omega); I (by omega : (limbs x).length + 1 = out.length) (I (DownI.start hF.2.2.2 hDb.2.2.1 rfl : DownI (valL out) s ((limbs x).length + 1) 0 out) (fun (i4 : Nat) (ls4 : List Nat) (hb66 : HB [.s 262 (.nat .i64) (.n 1099511627776), .bk 66 (.nat .u32) (.n 4294967295)] (i4, ls4)) (hW : DownI (valL out) s ((limbs x).length + 1) i4 ls4) => have hv73 := (show i4 ≤ 1099511627776 from hb66.1); have hv74 := (show ∀ u ∈ ls4, u ≤ 4294967295 from hb66.2); have hWl := hW.hl; have hWi := hW.hi; have hWN := hW.hN; have hwg := (jB (by omega) hW.hu : ∀ k, ls4.getD k 0 < 4294967296); And.intro (fun (h67 : i4 < (limbs (valL out)).length) => I (by omega : i4 < (limbs (valL out)).length) (I (by omega : i4 < ls4.length) (I (EJ _ _ (show s ≤ 32 by omega) : qo .shr .u32 ((ls4.getD i4 0 : Nat) : Int) (s : Int) (((ls4.getD i4 0) / 2 ^ s : Nat) : Int)) (I (Nat.le_trans (Nat.div_le_self _ _) (by have := hwg i4; omega) : (ls4.getD i4 0) / 2 ^ s ≤ 4294967295) (I (by omega : i4 < (limbs (valL out)).length) (I (by omega : i4 < ls4.length) (And.intro (fun (h68 : 0 < s) => And.intro (fun (h69 : i4 + 1 < (limbs (valL out)).length) => I (by omega : i4 < (limbs (valL out)).length) (I (by simp only [List.length_set]; omega : i4 < (ls4.set i4 ((ls4.getD i4 0) / 2 ^ s)).length) (I (by omega : i4 + 1 < (limbs (valL out)).length) (I (by simp only [List.length_set]; omega : i4 + 1 < (ls4.set i4 ((ls4.getD i4 0) / 2 ^ s)).length) (I (by omega : s ≤ 32) (I (JR _ _ (by omega) : qo .shl .u32 (((ls4.set i4 ((ls4.getD i4 0) / 2 ^ s)).getD (i4 + 1) 0 : Nat) : Int) ((32 - s : Nat) : Int) ((((ls4.set i4 ((ls4.getD i4 0) / 2 ^ s)).getD (i4 + 1) 0) * 2 ^ (32 - s) % 4294967296 : Nat) : Int)) (I (by omega : ((ls4.set i4 ((ls4.getD i4 0) / 2 ^ s)).getD (i4 + 1) 0) * 2 ^ (32 - s) % 4294967296 ≤ 4294967295) (I ((Dj (by omega) hwg (by omega)).1 : qo .or .u32 (((ls4.set i4 ((ls4.getD i4 0) / 2 ^ s)).getD i4 0 : Nat) : Int) ((((ls4.set i4 ((ls4.getD i4 0) / 2 ^ s)).getD (i4 + 1) 0) * 2 ^ (32 - s) % 4294967296 : Nat) : Int) ((((ls4.set i4 ((ls4.getD i4 0) / 2 ^ s)).getD i4 0) + (((ls4.set i4 ((ls4.getD i4 0) / 2 ^ s)).getD (i4 + 1) 0) * 2 ^ (32 - s) % 4294967296) : Nat) : Int)) (I ((Dj (by omega) hwg (by omega)).2 : ((ls4.set i4 ((ls4.getD i4 0) / 2 ^ s)).getD i4 0) + (((ls4.set i4 ((ls4.getD i4 0) / 2 ^ s)).getD (i4 + 1) 0) * 2 ^ (32 - s) % 4294967296) ≤ 4294967295) (I (by omega : i4 < (limbs (valL out)).length) (I (by simp only [List.length_set]; omega : i4 < (ls4.set i4 ((ls4.getD i4 0) / 2 ^ s)).length) (I (show (i4 + 1) ≤ 1099511627776 by omega : Bnd (.nat .i64) (.n 1099511627776) (i4 + 1)) (And.intro (by first | exact hW.step1 (by omega) (by omega) (by omega) | exact hW.step2 (by omega) (by omega) : DownI (valL out) s ((limbs x).length + 1) (i4 + 1) ((ls4.set i4 ((ls4.getD i4 0) / 2 ^ s)).set i4 (((ls4.set i4 ((ls4.getD i4 0) / 2 ^ s)).getD i4 0) + (((ls4.set i4 ((ls4.getD i4 0) / 2 ^ s)).getD (i4 + 1) 0) * 2 ^ (32 - s) % 4294967296)))) (by omega : (limbs (valL out)).length - (i4 + 1) < (limbs (valL out)).length - i4)))))))))))))) (fun (h70 : ¬ (i4 + 1 < (limbs (valL out)).length)) => I (show (i4 + 1) ≤ 1099511627776 by omega : Bnd (.nat .i64) (.n 1099511627776) (i4 + 1)) (And.intro (by first | exact hW.step1 (by omega) (by omega) (by omega) | exact hW.step2 (by omega) (by omega) : DownI (valL out) s ((limbs x).length + 1) (i4 + 1) (ls4.set i4 ((ls4.getD i4 0) / 2 ^ s))) (by omega : (limbs (valL out)).length - (i4 + 1) < (limbs (valL out)).length - i4)))) (fun (h71 : ¬ (0 < s)) => I (show (i4 + 1) ≤ 1099511627776 by omega : Bnd (.nat .i64) (.n 1099511627776) (i4 + 1)) (And.intro (by first | exact hW.step1 (by omega) (by omega) (by omega) | exact hW.step2 (by omega) (by omega) : DownI (valL out) s ((limbs x).length + 1) (i4 + 1) (ls4.set i4 ((ls4.getD i4 0) / 2 ^ s))) (by omega : (limbs (valL out)).length - (i4 + 1) < (limbs (valL out)).length - i4)))))))))) (fun (h72 : ¬ (i4 < (limbs (valL out)).length)) => I (by omega : ((limbs x).length + 1) - m = ql.length) (I (by omega : (limbs (valL out)).length ≤ ls4.length) (have hFin := (DownI.fin' hW (by omega) rfl); I (hF.2.2.1 : ∀ u ∈ ql, u < 4294967296) (I (hFin.2 : ∀ u ∈ ls4.take ((limbs (valL out)).length), u < 4294967296) (And.intro (hF.1 : valL ql = x / y) (by rw [hFin.1, hF.2.1, Nat.mul_div_cancel _ (Nat.pow_pos (by omega))] : valL (ls4.take ((limbs (valL out)).length)) = x % y))))))))))))) ((limbs (y * 2 ^ s)).length) hV)))) (32 - bl ((limbs y).getD (((limbs y).length) - 1) 0)) rfl))))))⟩)
abbrev Hj : Ctr Tryz.prog := FI.c ZC
abbrev ZK : FI := ⟨157, [.mag, .mag], [(.n 1099511627776), (.n 1099511627776)], fun _ => [], fun b z => (fun (x : Nat) (y : Nat) => .c (.one (.dt .mag (.n (max (b0 b).nb (b1 b).nb)) (Nat.gcd x y)))) z.1 z.2⟩
theorem ZL : ZK.OK Tryz.prog := mkF hmix 61 Tryz.func157 rfl rfl (by decide) [(152, .c w5), (158, .c Hj), (159, .c of_c), (163, .c BQ), (196, .c Ug)] (fun _ => rfl) (fun _ => rfl) (fun _ _ => rfl) (fun (x : Nat) (y : Nat) b hx hp => q9 (Kf (Bnds.h2 hx).1.mag (Bnds.h2 hx).2.mag) rfl) (fun (x : Nat) (y : Nat) hx hp => by
 have hx0 : lt2 x 1099511627776 := hx.1
 have hl0 : (limbs x).length ≤ 34359738369 := qc (Nat.le_of_lt hx0)
 have hx1 : lt2 y 1099511627776 := hx.2
 have hl1 : (limbs y).length ≤ 34359738369 := qc (Nat.le_of_lt hx1)
 exact ⟨.loop [.s 5 .mag (.n 1099511627776), .s 6 .mag (.n 1099511627776)] (fun ((a, b) : Nat × Nat) => Nat.gcd a b = Nat.gcd x y) (fun ((a, b) : Nat × Nat) => b) (fun ((a, b) : Nat × Nat) => .cond (.nil) (.cond (.nil) (.cond (.loop [.s 13 (.nat .u64) (.n 18446744073709551615), .s 14 (.nat .u64) (.n 18446744073709551615)] (fun ((u, v) : Nat × Nat) => Nat.gcd u v = Nat.gcd x y) (fun ((u, v) : Nat × Nat) => v) (fun ((u, v) : Nat × Nat) => .nil)) (.loop [.s 13 (.nat .u64) (.n 18446744073709551615), .s 14 (.nat .u64) (.n 18446744073709551615)] (fun ((u, v) : Nat × Nat) => Nat.gcd u v = Nat.gcd x y) (fun ((u, v) : Nat × Nat) => v) (fun ((u, v) : Nat × Nat) => .nil))))), kcast (by kernel_rfl) (I (rfl : Nat.gcd x y = Nat.gcd x y) (fun (a : Nat) (b : Nat) (hb1 : HB [.s 5 .mag (.n 1099511627776), .s 6 .mag (.n 1099511627776)] (a, b)) (hC : Nat.gcd a b = Nat.gcd x y) => And.intro (fun (h2 : 2 < (limbs b).length) => have hb0 := (show 0 < b from Nat.pos_of_ne_zero (fun e => by have := nl0.2 e; omega)); I (hb0 : 0 < b) (And.intro ((vK a b).trans hC : Nat.gcd b (a % b) = Nat.gcd x y) (Nat.mod_lt _ hb0 : a % b < b))) (fun (h3 : ¬ (2 < (limbs b).length)) => And.intro (fun (h4 : (limbs b).length = 0) => (by have e := nl0.1 (show (limbs b).length = 0 by omega); rw [e, Nat.gcd_zero_right] at hC; exact hC : a = Nat.gcd x y)) (fun (h5 : ¬ ((limbs b).length = 0)) => And.intro (fun (h6 : 2 < (limbs a).length) => have hb0 := (show 0 < b from Nat.pos_of_ne_zero (fun e => by have := nl0.2 e; omega)); I (hb0 : 0 < b) (I (by omega : (limbs b).length ≤ 2) (I (by first | omega | exact Nat.le_trans (jV (Nat.le_of_lt (Nat.mod_lt a hb0))) (by omega) : (limbs (a % b)).length ≤ 2) (I (by first | exact hC | exact (vK a b).trans hC : Nat.gcd b (a % b) = Nat.gcd x y) (fun (u : Nat) (v : Nat) (hb7 : HB [.s 13 (.nat .u64) (.n 18446744073709551615), .s 14 (.nat .u64) (.n 18446744073709551615)] (u, v)) (hK : Nat.gcd u v = Nat.gcd x y) => have hv10 := (show u ≤ 18446744073709551615 from hb7.1); have hv11 := (show v ≤ 18446744073709551615 from hb7.2); And.intro (fun (h8 : v ≠ 0) => I (by omega : 0 < v) (And.intro ((vK u v).trans hK : Nat.gcd v (u % v) = Nat.gcd x y) (Nat.mod_lt _ (by omega) : u % v < v))) (fun (h9 : ¬ (v ≠ 0)) => (by rw [show v = 0 by omega, Nat.gcd_zero_right] at hK; exact hK : u = Nat.gcd x y))))))) (fun (h12 : ¬ (2 < (limbs a).length)) => I (by omega : (limbs a).length ≤ 2) (I (by first | omega | exact Nat.le_trans (jV (Nat.le_of_lt (Nat.mod_lt a hb0))) (by omega) : (limbs b).length ≤ 2) (I (by first | exact hC | exact (vK a b).trans hC : Nat.gcd a b = Nat.gcd x y) (fun (u : Nat) (v : Nat) (hb13 : HB [.s 13 (.nat .u64) (.n 18446744073709551615), .s 14 (.nat .u64) (.n 18446744073709551615)] (u, v)) (hK : Nat.gcd u v = Nat.gcd x y) => have hv16 := (show u ≤ 18446744073709551615 from hb13.1); have hv17 := (show v ≤ 18446744073709551615 from hb13.2); And.intro (fun (h14 : v ≠ 0) => I (by omega : 0 < v) (And.intro ((vK u v).trans hK : Nat.gcd v (u % v) = Nat.gcd x y) (Nat.mod_lt _ (by omega) : u % v < v))) (fun (h15 : ¬ (v ≠ 0)) => (by rw [show v = 0 by omega, Nat.gcd_zero_right] at hK; exact hK : u = Nat.gcd x y))))))))))⟩)
abbrev gcd_c : Ctr Tryz.prog := FI.c ZL
abbrev Yc : FI := ⟨100, [], [], fun _ => [], fun b z => .c (.one (.dt .mag (.n (1)) (1)))⟩
theorem Yd : Yc.OK Tryz.prog := mkF hmix 2 Tryz.func100 rfl rfl (by decide) [] (fun _ => rfl) (fun _ => rfl) (fun _ _ => rfl) (fun  b hx hp => q9 (wt rfl) rfl) (fun  hx hp => by
 exact ⟨.h 1 0 (.mk (.im (.nat .u32) (.n 4294967295))) (.h 1 1 (.mag 1 1) (.nil)), kcast (by kernel_rfl) (I (zm.symm : [1] = limbs 1) (I (wt rfl : lt2 1 1) ((Eq.refl 1))))⟩)
abbrev IR : Ctr Tryz.prog := FI.c Yd
abbrev UU : FI := ⟨99, [(.int .i64)], [(.n 9223372036854775807)], fun _ => [], fun b z => (fun (v : Int) => .c (.one (.dt .mag (.n (Nat.log2 (b0 b).nb + 1)) (v.natAbs)))) z⟩
theorem UV : UU.OK Tryz.prog := mkF hmix 12 Tryz.func99 rfl rfl (by decide) [(159, .c of_c)] (fun _ => rfl) (fun _ => rfl) (fun _ _ => rfl) (fun (v : Int) b hx hp => q9 (zC (Bnds.h1 hx).int) rfl) (fun (v : Int) hx hp => by
 have hx0 : Int.natAbs v ≤ 9223372036854775807 := hx
 exact ⟨.cond (.dead) (.h 3 4 (.i (.n v.natAbs 9223372036854775807)) (.nil)), kcast (by kernel_rfl) (And.intro (fun (h1 : v = (-9223372036854775808)) => (by omega : False)) (fun (h2 : ¬ (v = (-9223372036854775808))) => I (by rw [show max v (-v) = ((v.natAbs : Nat) : Int) by omega]; exact zw (by omega) : IntKind.wrap .u64 (max v (-v)) = ((v.natAbs : Nat) : Int)) (I (by omega : v.natAbs ≤ 9223372036854775807) ((Eq.refl v.natAbs)))))⟩)
abbrev UT : Ctr Tryz.prog := FI.c UV
abbrev XZ : FI := ⟨98, [.rat], [(.n 1099511627776)], fun _ => [], fun b z => (fun (x : Rat) => .c (.one (.dt .mag (.n ((b0 b).nb + 1)) (x.den)))) z⟩
theorem Y0 : XZ.OK Tryz.prog := mkF hmix 10 Tryz.func98 rfl rfl (by decide) [(100, .c IR)] (fun _ => rfl) (fun _ => rfl) (fun _ _ => rfl) (fun (x : Rat) b hx hp => q9 (z6 (Bnds.h1 hx).rat.2) rfl) (fun (x : Rat) hx hp => by
 have hx0 : Bnd .rat (.n 1099511627776) x := hx
 exact ⟨.cond (.nil) (.h 3 2 (.mag x.den 1099511627777) (.nil)), kcast (by kernel_rfl) (And.intro (fun (h1 : (denL x.den).length = 0) => ((zP x.den_nz (by omega)).symm : 1 = x.den)) (fun (h2 : ¬ ((denL x.den).length = 0)) => I (w7 (by omega) : denL x.den = limbs x.den) (I (z6 hx0.2 : lt2 x.den 1099511627777) ((Eq.refl x.den)))))⟩)
abbrev CW : Ctr Tryz.prog := FI.c Y0
abbrev Y2 : FI := ⟨155, [(.nat .u64), (.nat .u64)], [(.n 18446744073709551615), (.n 18446744073709551615)], fun _ => [], fun b z => (fun (n : Nat) (d : Nat) => .c (.one (.dt (.nat .u64) (.n (max (b0 b).nb (b1 b).nb)) (Nat.gcd n d)))) z.1 z.2⟩
theorem Y3 : Y2.OK Tryz.prog := mkF hmix 12 Tryz.func155 rfl rfl (by decide) [] (fun _ => rfl) (fun _ => rfl) (fun _ _ => rfl) (fun (n : Nat) (d : Nat) b hx hp => q9 (Tj (Bnds.h2 hx).1.nat (Bnds.h2 hx).2.nat) rfl) (fun (n : Nat) (d : Nat) hx hp => by
 have hx0 : n ≤ 18446744073709551615 := hx.1
 have hx1 : d ≤ 18446744073709551615 := hx.2
 exact ⟨.loop [.s 0 (.nat .u64) (.n 18446744073709551615), .s 1 (.nat .u64) (.n 18446744073709551615)] (fun ((u, v) : Nat × Nat) => Nat.gcd u v = Nat.gcd n d) (fun ((u, v) : Nat × Nat) => v) (fun ((u, v) : Nat × Nat) => .nil), kcast (by kernel_rfl) (I (rfl : Nat.gcd n d = Nat.gcd n d) (fun (u : Nat) (v : Nat) (hb1 : HB [.s 0 (.nat .u64) (.n 18446744073709551615), .s 1 (.nat .u64) (.n 18446744073709551615)] (u, v)) (hK : Nat.gcd u v = Nat.gcd n d) => have hv4 := (show u ≤ 18446744073709551615 from hb1.1); have hv5 := (show v ≤ 18446744073709551615 from hb1.2); And.intro (fun (h2 : v ≠ 0) => I (by omega : 0 < v) (And.intro ((vK u v).trans hK : Nat.gcd v (u % v) = Nat.gcd n d) (Nat.mod_lt _ (by omega) : u % v < v))) (fun (h3 : ¬ (v ≠ 0)) => (by rw [show v = 0 by omega, Nat.gcd_zero_right] at hK; exact hK : u = Nat.gcd n d))))⟩)
abbrev Y1 : Ctr Tryz.prog := FI.c Y3
abbrev QP : FV := ⟨156, false, (.nat .u32), (.n 4294967295), 1099511627776, [(.nat .u64)], [(.n 18446744073709551615)], fun l lo n cap z => (fun (v : Nat) => [2 ≤ n, lo + 2 ≤ l.length, v ≤ 18446744073709551615]) z, fun k b l lo n cap z => (fun (v : Nat) => .c (.one (.dt (.nat .i64) (.n 2) (nlw v)))) z, fun l lo n cap z => (fun (v : Nat) => putW l lo v) z⟩
theorem QQ : QP.OK Tryz.prog := mkSl hmix 17 Tryz.func156 rfl rfl (by decide) [] (fun _ => rfl) (fun _ _ _ _ _ => rfl) (fun _ _ _ _ _ _ _ => rfl) (fun _ _ _ _ _ _ => rfl) (fun (l : List Nat) (lo n cap : Nat) (v : Nat) k b hx hs hn (hm : n ≤ 1099511627776) hp => ⟨q9 (It v).2 rfl, QI (hp _ (List.mem_cons_of_mem _ (List.mem_cons_of_mem _ List.mem_cons_self))) hs⟩) (fun (l : List Nat) (lo n cap : Nat) (v : Nat) hs hx hn (hm : n ≤ 1099511627776) hp => by
 have hx0 : v ≤ 18446744073709551615 := hx
 have hp0 : 2 ≤ n := hp _ (List.mem_cons_self)
 have hp1 : lo + 2 ≤ l.length := hp _ (List.mem_cons_of_mem _ (List.mem_cons_self))
 have hp2 : v ≤ 18446744073709551615 := hp _ (List.mem_cons_of_mem _ (List.mem_cons_of_mem _ (List.mem_cons_self)))
 exact ⟨.nil, kcast (by kernel_rfl) (I (by omega : 0 < n) (I (by omega : lo + 0 < l.length) (And.intro (fun (h1 : v / 2 ^ 32 = 0) => And.intro (by rw [putW, if_pos (by assumption)] : l.set (lo + 0) (v % 4294967296) = putW l lo v) ((by rw [nlw, if_pos (by assumption)] : 1 = nlw v))) (fun (h2 : ¬ (v / 2 ^ 32 = 0)) => I (by omega : 1 < n) (I (by simp only [List.length_set]; omega : lo + 1 < (l.set (lo + 0) (v % 4294967296)).length) (And.intro (by rw [putW, if_neg (by assumption)] : (l.set (lo + 0) (v % 4294967296)).set (lo + 1) (v / 2 ^ 32) = putW l lo v) ((by rw [nlw, if_neg (by assumption)] : 2 = nlw v))))))))⟩)
abbrev QO : CtrS Tryz.prog := FV.c QQ
abbrev V9 : FI := ⟨95, [.bool, (.nat .u64), (.nat .u64)], [.u, (.n 18446744073709551615), (.n 18446744073709551615)], fun z => (fun (neg : Bool) (n : Nat) (d : Nat) => [0 < d]) z.1 z.2.1 z.2.2, fun b z => (fun (neg : Bool) (n : Nat) (d : Nat) => .c (.agg [.dt .rat (.n (max (Nat.log2 (b1 b).nb + 1) (Nat.log2 (b2 b).nb + 1))) (sgQ neg n d)])) z.1 z.2.1 z.2.2⟩
theorem Va : V9.OK Tryz.prog := mkF hmix 50 Tryz.func95 rfl rfl (by decide) [(155, .c Y1), (156, .s QO)] (fun _ => rfl) (fun _ => rfl) (fun _ _ => rfl) (fun (neg : Bool) (n : Nat) (d : Nat) b hx hp => qW (qt (q7 (Nat.le_max_left _ _) (zC (Bnds.h3 hx).2.1.nat)) (qz (q7 (Nat.le_max_right _ _) (zC (Bnds.h3 hx).2.2.nat))) (hp _ List.mem_cons_self))) (fun (neg : Bool) (n : Nat) (d : Nat) hx hp => by
 have hx1 : n ≤ 18446744073709551615 := hx.2.1
 have hx2 : d ≤ 18446744073709551615 := hx.2.2
 have hp0 : 0 < d := hp _ (List.mem_cons_self)
 exact ⟨.cond (.nil) ((fun (g : Nat) => (fun (n1 : Nat) => (fun (d1 : Nat) => .h 5 0 (.mk (.arr (.nat .u32) (.n 4294967295))) ((fun (a : Nat) => .cond ((fun (b : Nat) => .pre 11 (.frz 24 false []) (.h 11 0 (.rat (sgQ neg n d) 64) (.nil))) (a + (nlw d1))) (.pre 11 (.frz 24 false []) (.h 11 0 (.rat (sgQ neg n d) 64) (.nil)))) (nlw n1))) (d / g)) (n / g)) (Nat.gcd n d)), kcast (by kernel_rfl) (And.intro (fun (h1 : n = 0) => (by rw [show n = 0 by omega, Av] : 0 = sgQ neg n d)) (fun (h2 : ¬ (n = 0)) => (fun (g : Nat) (hg : g = Nat.gcd n d) => have hg0 := (show 0 < g from hg ▸ Nat.gcd_pos_of_pos_right _ hp0); I (by omega : 0 < g) (I (by omega : 0 < g) ((fun (n1 : Nat) (hn1 : n1 = n / g) => (fun (d1 : Nat) (hd1 : d1 = d / g) => have hn0 := (show 0 < n1 from by rw [hn1, hg]; exact Nat.div_pos (Nat.gcd_le_left _ (by omega)) (hg ▸ hg0)); have hd0 := (show 0 < d1 from by rw [hd1, hg]; exact Nat.div_pos (Nat.gcd_le_right _ (by omega)) (hg ▸ hg0)); have hn9 := (show n1 ≤ 18446744073709551615 from by rw [hn1]; exact Nat.le_trans (Nat.div_le_self _ _) hx1); have hd9 := (show d1 ≤ 18446744073709551615 from by rw [hd1]; exact Nat.le_trans (Nat.div_le_self _ _) hx2); I (by omega : 2 ≤ 4) (I (by simp : 0 + 2 ≤ (List.replicate 4 (0 : Nat)).length) (I (by omega : n1 ≤ 18446744073709551615) ((fun (a : Nat) (ha : a = nlw n1) => have ha1 := (show 1 ≤ a ∧ a ≤ 2 from by rw [ha]; exact It n1); have hL := (show (putW (List.replicate 4 (0 : Nat)) 0 n1).length = 4 from IJ _ _ _); I (by omega : a ≤ 4) (I (by omega : a = a) (And.intro (fun (h3 : 1 < d1) => I (by omega : a ≤ 4) (I (by omega : a < 4) (I (by omega : 2 ≤ 4 - a) (I (by omega : a + 2 ≤ (putW (List.replicate 4 (0 : Nat)) 0 n1).length) (I (by omega : d1 ≤ 18446744073709551615) ((fun (b : Nat) (hb : b = a + (nlw d1)) => have hb1 := It d1; have hL2 := (show (putW (putW (List.replicate 4 (0 : Nat)) 0 n1) a d1).length = 4 from (IJ _ _ _).trans hL); I (by omega : a < b) (I (by omega : b ≤ 4) (I (by omega : b = b) (I (by omega : a ≤ (putW (putW (List.replicate 4 (0 : Nat)) 0 n1) a d1).length) (I (by omega : a + (b - a) ≤ (putW (putW (List.replicate 4 (0 : Nat)) 0 n1) a d1).length) (I ((j9 (by omega) hp0).symm : neg = decide ((sgQ neg n d).num < 0)) (I (by rw [qY hp0, ← hg, ← hn1]; subst ha; first | exact J2 hn0 hn9 | exact Kz hn0 hn9 : (putW (putW (List.replicate 4 (0 : Nat)) 0 n1) a d1).take a = limbs ((sgQ neg n d).num.natAbs)) (I (by rw [(qP hp0).2, ← hg, ← hd1, denL, if_neg (by omega)]; subst hb ha; exact V8 hd0 hd9 : ((putW (putW (List.replicate 4 (0 : Nat)) 0 n1) a d1).drop a).take (b - a) = denL (sgQ neg n d).den) (I (by rw [qY hp0, ← hg, ← hn1]; exact Nat.lt_of_le_of_lt hn9 (by decide) : lt2 (sgQ neg n d).num.natAbs 64) (I (by rw [(qP hp0).2, ← hg, ← hd1]; exact Nat.le_trans hd9 (by decide) : le2 (sgQ neg n d).den 64) ((Eq.refl (sgQ neg n d))))))))))))) (a + (nlw d1)) rfl)))))) (fun (h4 : ¬ (1 < d1)) => I (by omega : a ≤ (putW (List.replicate 4 (0 : Nat)) 0 n1).length) (I ((j9 (by omega) hp0).symm : neg = decide ((sgQ neg n d).num < 0)) (I (by rw [qY hp0, ← hg, ← hn1]; subst ha; first | exact J2 hn0 hn9 | exact Kz hn0 hn9 : (putW (List.replicate 4 (0 : Nat)) 0 n1).take a = limbs ((sgQ neg n d).num.natAbs)) (I (by rw [(qP hp0).2, ← hg, ← hd1]; omega : (sgQ neg n d).den = 1) (I (by rw [qY hp0, ← hg, ← hn1]; exact Nat.lt_of_le_of_lt hn9 (by decide) : lt2 (sgQ neg n d).num.natAbs 64) (I (by rw [(qP hp0).2, ← hg, ← hd1]; exact Nat.le_trans hd9 (by decide) : le2 (sgQ neg n d).den 64) ((Eq.refl (sgQ neg n d)))))))))))) (nlw n1) rfl)))) (d / g) rfl) (n / g) rfl))) (Nat.gcd n d) rfl))⟩)
abbrev DD : Ctr Tryz.prog := FI.c Va
end Go.Proofs.YtcjgaaibflcdiaaGreat.Sx
