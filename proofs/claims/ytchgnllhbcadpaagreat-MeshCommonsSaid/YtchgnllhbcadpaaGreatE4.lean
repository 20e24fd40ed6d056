/-
Own laws and walks for the claim, part 4: WRl, WRl2, WRl3, WXl, WXl2, WYl, WVl, WDl, WDa1, WNat1, WNat2, WNat3, WNat4, WNat5, WNat6, WRat1, WRat2, WRat3, WRat4, WAdd64, WRat5, WRat6, WRat7, WRat8, WRef1, WRef2, WRef3. No condition.
-/
import Derived.Test.YtchgnllhbcadpaaGreatE3
namespace Go.Proofs.YtchgnllhbcadpaaGreat.Sx
open Go Go.Proofs
set_option linter.unusedVariables false
set_option linter.unusedSimpArgs false
set_option maxRecDepth 20000
set_option maxHeartbeats 4000000
def sgI (neg : Bool) (n : Nat) : Int := if neg then -(n : Int) else n
def sgQ (neg : Bool) (n d : Nat) : Rat := mkRat (sgI neg n) d
theorem JR (neg : Bool) (n : Nat) : (sgI neg n).natAbs = n := by unfold sgI; split <;> simp
theorem BR (neg : Bool) (d : Nat) : sgQ neg 0 d = 0 := by unfold sgQ sgI; cases neg <;> simp
theorem Bb (neg : Bool) (n : Nat) : sgQ neg n 0 = 0 := by unfold sgQ; simp [Rat.mkRat_zero]
theorem qP {neg : Bool} {n d : Nat} (hd : 0 < d) : (sgQ neg n d).num = sgI neg n / ((Nat.gcd n d : Nat) : Int) ∧ (sgQ neg n d).den = d / Nat.gcd n d := by
 have h : sgQ neg n d = Rat.normalize (sgI neg n) d (by omega) := (Rat.normalize_eq_mkRat (by omega)).symm
 have e := Rat.normalize_eq (num := sgI neg n) (den := d) (by omega)
 rw [h, e]
 refine ⟨?_, ?_⟩
 ·show sgI neg n / (((sgI neg n).natAbs.gcd d : Nat) : Int) = _
  rw [JR]
 ·show d / (sgI neg n).natAbs.gcd d = _
  rw [JR]
theorem qS {neg : Bool} {n d : Nat} (hd : 0 < d) : (sgQ neg n d).num.natAbs = n / Nat.gcd n d := by
 rw [(qP hd).1]
 unfold sgI
 have hg : (Nat.gcd n d) ∣ n := Nat.gcd_dvd_left n d
 obtain ⟨k, hk⟩ := hg
 have hg0 : 0 < Nat.gcd n d := Nat.gcd_pos_of_pos_right _ hd
 generalize Nat.gcd n d = g at *
 subst hk
 rw [Nat.mul_div_cancel_left _ hg0]
 split
 ·rw [Int.natCast_mul, ← Int.mul_neg, Int.mul_ediv_cancel_left _ (by omega)]; simp
 ·rw [Int.natCast_mul, Int.mul_ediv_cancel_left _ (by omega)]; simp
theorem qZ {neg : Bool} {n d : Nat} (hn : 0 < n) (hd : 0 < d) : decide ((sgQ neg n d).num < 0) = neg := by
 rw [(qP hd).1]
 have hg0 : 0 < Nat.gcd n d := Nat.gcd_pos_of_pos_right _ hd
 obtain ⟨k, hk⟩ := Nat.gcd_dvd_left n d
 generalize Nat.gcd n d = g at *
 subst hk
 have hk0 : 0 < k := Nat.pos_of_ne_zero (fun e => by subst e; simp at hn)
 unfold sgI
 cases neg
 ·simp only [Bool.false_eq_true, if_false, Int.natCast_mul, Int.mul_ediv_cancel_left _ (show (g : Int) ≠ 0 by omega)]
  simp
 ·simp only [if_true]
  rw [Int.natCast_mul, ← Int.mul_neg, Int.mul_ediv_cancel_left _ (by omega)]
  simp; omega
theorem SP (a b : Bool) (n m : Nat) : sgI a n * sgI b m = sgI (decide (a ≠ b)) (n * m) := by
 cases a <;> cases b <;> simp [sgI, Int.natCast_mul, Int.neg_mul, Int.mul_neg]
theorem Id (z : Int) : sgI (decide (z < 0)) z.natAbs = z := by
 unfold sgI; split <;> simp_all <;> omega
theorem zG (x : Rat) : sgQ (decide (x.num < 0)) x.num.natAbs x.den = x := by
 unfold sgQ; rw [Id]; exact Rat.mkRat_self x
theorem JT (a b : Bool) (n m d e : Nat) : sgQ a n d * sgQ b m e = sgQ (decide (a ≠ b)) (n * m) (d * e) := by
 unfold sgQ; rw [Rat.mkRat_mul_mkRat, SP]
theorem zM (x y : Rat) : sgQ (decide (decide (x.num < 0) ≠ decide (y.num < 0))) (x.num.natAbs * y.num.natAbs) (x.den * y.den) = x * y := by
 rw [← JT, zG, zG]
theorem SQ (a b : Bool) (n m : Nat) {d e : Nat} (hd : 0 < d) (he : 0 < e) : sgQ a n d + sgQ b m e = mkRat (sgI a (n * e) + sgI b (m * d)) (d * e) := by
 unfold sgQ
 rw [Rat.mkRat_add_mkRat _ _ (by omega) (by omega)]
 congr 1
 unfold sgI
 cases a <;> cases b <;> simp [Int.natCast_mul, Int.neg_mul]
theorem Pb (a : Bool) (n m : Nat) : sgI a n + sgI a m = sgI a (n + m) := by cases a <;> simp [sgI] <;> omega
theorem W9 {a b : Bool} (h : a ≠ b) {n m : Nat} (hm : m ≤ n) : sgI a n + sgI b m = sgI a (n - m) := by
 cases a <;> cases b <;> simp_all [sgI] <;> omega
theorem Wa {a b : Bool} (h : a ≠ b) {n m : Nat} (hm : n ≤ m) : sgI a n + sgI b m = sgI b (m - n) := by
 cases a <;> cases b <;> simp_all [sgI] <;> omega
theorem qw {neg : Bool} {n d p : Nat} (hn : lt2 n p) (hd : le2 d p) (h0 : 0 < d) : Bnd .rat (.n p) (sgQ neg n d) := by
 show lt2 _ _ ∧ le2 _ _
 rw [qS h0, (qP h0).2]
 exact ⟨Ab hn (Nat.div_le_self _ _), Nat.le_trans (Nat.div_le_self _ _) hd⟩
theorem zm {x b : Nat} (h : x ≤ b) : lt2 x (Nat.log2 b + 1) := Nat.lt_of_le_of_lt h Nat.lt_log2_self
theorem ja {b : Bd} {x : Rat} (h : Bnd .rat b x) : (WV.c (.agg [.dt .rat b x])).ok := jh h
def nlw (v : Nat) : Nat := if v / 2 ^ 32 = 0 then 1 else 2
def putW (l : List Nat) (lo v : Nat) : List Nat := if v / 2 ^ 32 = 0 then l.set (lo + 0) (v % 4294967296) else (l.set (lo + 0) (v % 4294967296)).set (lo + 1) (v / 2 ^ 32)
theorem HO (v : Nat) : 1 ≤ nlw v ∧ nlw v ≤ 2 := by unfold nlw; split <;> omega
theorem I2 (l : List Nat) (lo v : Nat) : (putW l lo v).length = l.length := by unfold putW; split <;> simp
theorem OY {l : List Nat} {lo v : Nat} (hv : v ≤ 18446744073709551615) (h : ∀ u ∈ l, Bnd (.nat .u32) (.n 4294967295) u) : ∀ u ∈ putW l lo v, Bnd (.nat .u32) (.n 4294967295) u := by
 have h1 := jk (n := lo + 0) (G6 h) (Nat.mod_lt v (show 0 < 4294967296 by omega))
 unfold putW
 split
 ·exact fun u hu => Nat.le_of_lt_succ (h1 u hu)
 ·exact fun u hu => Nat.le_of_lt_succ (jk h1 (show v / 2 ^ 32 < 4294967296 by omega) u hu)
theorem FA {v : Nat} (h0 : 0 < v) (hv : v ≤ 18446744073709551615) : limbs v = if v / 2 ^ 32 = 0 then [v % 4294967296] else [v % 4294967296, v / 2 ^ 32] := by
 rw [jK (by omega)]
 split
 ·rename_i h
  rw [show v / 4294967296 = 0 by omega]; rw [zl]
 ·rename_i h
  rw [jK (n := v / 4294967296) (by omega)]
  rw [show v / 4294967296 / 4294967296 = 0 by omega, zl, Nat.mod_eq_of_lt (show v / 4294967296 < 4294967296 by omega)]
theorem JU {n : Nat} (h0 : 0 < n) (hn : n ≤ 18446744073709551615) : (putW (List.replicate 4 (0 : Nat)) 0 n).take (nlw n) = limbs n := by
 rw [FA h0 hn]; unfold putW nlw
 split <;> simp [List.replicate]
theorem Ig {n d : Nat} (h0 : 0 < n) (hn : n ≤ 18446744073709551615) : (putW (putW (List.replicate 4 (0 : Nat)) 0 n) (nlw n) d).take (nlw n) = limbs n := by
 rw [FA h0 hn]; unfold putW nlw
 split <;> split <;> simp [List.replicate]
theorem ST {n d : Nat} (h0 : 0 < d) (hd : d ≤ 18446744073709551615) : ((putW (putW (List.replicate 4 (0 : Nat)) 0 n) (nlw n) d).drop (nlw n)).take (nlw n + nlw d - nlw n) = limbs d := by
 rw [FA h0 hd, Nat.add_sub_cancel_left]; unfold putW nlw
 split <;> split <;> simp [List.replicate]
theorem A4 {d : Nat} (h0 : d ≠ 0) (h : (denL d).length = 0) : d = 1 := by
 unfold denL at h
 split at h
 ·assumption
 ·exact absurd (nl0.1 h) h0
theorem Bs {d : Nat} (h : ¬ (denL d).length = 0) : denL d = limbs d := by
 unfold denL at h ⊢
 split
 ·rename_i e; rw [if_pos e] at h; exact absurd rfl h
 ·rfl
theorem R6 {a b p q : Nat} (ha : a ≤ p) (hb : b ≤ q) : Nat.gcd a b ≤ max p q := by
 rcases Nat.eq_zero_or_pos a with e | e
 ·subst e; rw [Nat.gcd_zero_left]; omega
 ·have := Nat.gcd_le_left b e; omega
theorem v7 {E : Nat} (h1 : (limbs E).length = 1) (h2 : (limbs E).getD 0 0 = 1) : E = 1 := by
 have := vk (x := E) (by omega)
 rw [h1] at this
 simp only [Nat.sub_self, List.take_zero, valL, h2] at this
 omega
theorem jP {D E : Nat} (h : E = D) (hn : ¬ ((limbs E).length = 1 ∧ (limbs E).getD 0 0 = 1)) : limbs E = denL D := by
 subst h
 unfold denL
 rw [if_neg]
 intro e; subst e; exact hn ⟨UZ, by rw [Aq]; rfl⟩
theorem KC {E : Nat} (h1 : (limbs E).length = 1) : (limbs E).getD 0 0 = E := by
 have := vk (x := E) (by omega)
 rw [h1] at this
 simp only [Nat.sub_self, List.take_zero, valL, Nat.pow_zero, Nat.one_mul, Nat.zero_add] at this
 exact this.symm
def bigQ (x : Rat) : Prop := 1 < (limbs x.num.natAbs).length ∨ 1 < (denL x.den).length
instance (x : Rat) : Decidable (bigQ x) := by unfold bigQ; infer_instance
def pn (x : Rat) : Nat := if bigQ x then 0 else x.num.natAbs
def pd (x : Rat) : Nat := if bigQ x then 0 else x.den
def pb (x : Rat) : Bool := decide (¬ bigQ x)
theorem MC {x : Nat} (h : (limbs x).length ≤ 1) : x < 4294967296 := by
 have h1 := jo (limbs x) (qO x)
 rw [qn] at h1
 exact Nat.lt_of_lt_of_le h1 (Nat.pow_le_pow_right (n := 4294967296) (by omega) h)
theorem EU (x : Rat) : pn x ≤ 4294967295 := by
 unfold pn; split
 ·omega
 ·rename_i h; unfold bigQ at h; exact Nat.le_of_lt_succ (MC (by omega))
theorem O1 {d : Nat} (h : (denL d).length ≤ 1) : d < 4294967296 := by
 unfold denL at h; split at h
 ·omega
 ·exact MC h
theorem ES (x : Rat) : pd x ≤ 4294967295 := by
 unfold pd; split
 ·omega
 ·rename_i h; unfold bigQ at h; exact Nat.le_of_lt_succ (O1 (by omega))
theorem Dg {x : Rat} (h : bigQ x) : 0 = pn x ∧ 0 = pd x ∧ false = pb x := by simp [pn, pd, pb, h]
theorem p_sm {x : Rat} (h : ¬ bigQ x) : x.num.natAbs = pn x ∧ x.den = pd x ∧ pb x = true := by simp [pn, pd, pb, h]
theorem Aw {x : Rat} (h : pb x = true) : pn x = x.num.natAbs ∧ pd x = x.den ∧ 0 < pd x := by
 have h : ¬ bigQ x := by simpa [pb] using h
 have := p_sm h
 have := x.den_nz
 omega
theorem LM {d : Nat} (h : (denL d).length = 1) : (denL d).getD 0 0 = d := by
 have h' : ¬ (denL d).length = 0 := by omega
 rw [Bs h'] at h ⊢
 exact KC h
theorem E0 {neg : Bool} {n d p : Nat} (hn : lt2 n p) (hd : lt2 d p) : Bnd .rat (.n p) (sgQ neg n d) := by
 rcases Nat.eq_zero_or_pos d with e | e
 ·subst e; rw [Bb]
  exact ⟨Nat.pow_pos (by decide), Nat.pow_pos (by decide)⟩
 ·exact qw hn (qz hd) e
theorem LD {g : Nat} (h0 : 0 < g) (h : bl g ≤ 1) : g = 1 := by
 have h1 := Ek g
 have h2 : 2 ^ bl g ≤ 2 ^ 1 := Nat.pow_le_pow_right (by decide) h
 omega
theorem AP {x y : Rat} {b c : Bd} (hx : Bnd .rat b x) (hy : Bnd .rat c y) : Bnd .rat (.n (b.nb + c.nb)) (x * y) := by
 rw [← zM]
 exact qw (Db hx.rat.1 hy.rat.1) (Js hx.rat.2 hy.rat.2) (Nat.mul_pos x.den_pos y.den_pos)
theorem vM {x : Rat} (h : x.num.natAbs = 0) : x = 0 := by
 have : x.num = 0 := Int.natAbs_eq_zero.1 h
 exact Rat.num_eq_zero.1 this
theorem JS (v : Int) : sgQ (decide (v < 0)) v.natAbs 1 = (v : Rat) := by
 unfold sgQ; rw [Id]; exact (Rat.mkRat_one v)
theorem wM {v : Int} {b : Nat} (h : v.natAbs ≤ b) : Bnd .rat (.n (Nat.log2 b + 1)) (v : Rat) := by
 rw [← JS]; exact qw (zm h) (Nat.one_le_two_pow) (by decide)
def sgnQ (x : Rat) : Int := if x.num.natAbs = 0 then 0 else if x.num < 0 then -1 else 1
theorem If (x : Rat) : (sgnQ x).natAbs ≤ 1 := by
 unfold sgnQ; split
 ·decide
 ·split <;> decide
theorem Fw {l m : List Nat} {i : Nat} (hl : l.length = m.length) (h : l.take i = m.take i) (hi : i < l.length) : (l.getD i 0 = m.getD i 0 → l.take (i + 1) = m.take (i + 1)) ∧ (l.getD i 0 ≠ m.getD i 0 → l ≠ m) := by
 refine ⟨fun e => ?_, fun e e2 => e (by rw [e2])⟩
 rw [List.take_succ_eq_append_getElem hi, List.take_succ_eq_append_getElem (by omega), h]
 simp only [List.getD_eq_getElem?_getD, List.getElem?_eq_getElem hi, List.getElem?_eq_getElem (show i < m.length by omega), Option.getD_some] at e
 rw [e]
theorem zS {x y : Rat} (h : y.num.natAbs ≠ 0) : sgQ (decide (decide (x.num < 0) ≠ decide (y.num < 0))) (x.num.natAbs * y.den) (x.den * y.num.natAbs) = x / y := by
 have e : y⁻¹ = sgQ (decide (y.num < 0)) y.den y.num.natAbs := by
  conv => lhs; rw [← Rat.num_divInt_den y]
  rw [Rat.inv_divInt]
  unfold sgQ sgI
  by_cases hn : y.num < 0
  ·simp only [hn, decide_true, if_true]
   rw [← Rat.divInt_ofNat, ← Rat.neg_divInt_neg]
   congr 1; omega
  ·simp only [hn, decide_false, Bool.false_eq_true, if_false]
   rw [← Rat.divInt_ofNat]
   congr 1; omega
 rw [Rat.div_def, e]
 conv => rhs; rw [← zG x]
 rw [JT]
def yQ (s : Bool) (y : Rat) : Rat := sgQ s y.num.natAbs y.den
theorem Bh (y : Rat) : yQ (decide (y.num < 0)) y = y := zG y
theorem NM (y : Rat) : yQ (!decide (y.num < 0)) y = -y := by
 have h : -y = mkRat (-y.num) y.den := by rw [← Rat.neg_mkRat, Rat.mkRat_self]
 by_cases h0 : y.num.natAbs = 0
 ·have := vM h0
  subst this; rfl
 ·rw [h]; unfold yQ sgQ sgI
  congr 1
  by_cases hn : y.num < 0
  ·simp [hn]; omega
  ·simp [hn]; omega
theorem H5 (s : Bool) (x y : Rat) : x + yQ s y = mkRat (sgI (decide (x.num < 0)) (x.num.natAbs * y.den) + sgI s (y.num.natAbs * x.den)) (x.den * y.den) := by
 conv => lhs; rw [← zG x]
 exact SQ _ _ _ _ x.den_pos y.den_pos
theorem qE {s : Bool} {x y : Rat} (h : decide (x.num < 0) = s) : sgQ s (x.num.natAbs * y.den + y.num.natAbs * x.den) (x.den * y.den) = x + yQ s y := by
 rw [H5, h, Pb]; rfl
theorem qC {s : Bool} {x y : Rat} (h : decide (x.num < 0) ≠ s) (hm : y.num.natAbs * x.den ≤ x.num.natAbs * y.den) : sgQ (decide (x.num < 0)) (x.num.natAbs * y.den - y.num.natAbs * x.den) (x.den * y.den) = x + yQ s y := by
 rw [H5, W9 h hm]; rfl
theorem qD {s : Bool} {x y : Rat} (h : decide (x.num < 0) ≠ s) (hm : x.num.natAbs * y.den ≤ y.num.natAbs * x.den) : sgQ s (y.num.natAbs * x.den - x.num.natAbs * y.den) (x.den * y.den) = x + yQ s y := by
 rw [H5, Wa h hm]; rfl
theorem CL (s : Bool) (n d e : Nat) (he : 0 < e) : sgQ s (n * e) (d * e) = sgQ s n d := by
 rcases Nat.eq_zero_or_pos d with h | h
 ·subst h; rw [Nat.zero_mul, Bb, Bb]
 ·unfold sgQ
  rw [Rat.mkRat_eq_iff (Nat.ne_of_gt (Nat.mul_pos h he)) (Nat.ne_of_gt h)]
  have e1 : sgI s (n * e) = sgI s n * (e : Int) := by unfold sgI; cases s <;> simp [Int.natCast_mul, Int.neg_mul]
  rw [e1, Int.natCast_mul, Int.mul_assoc, Int.mul_comm (e : Int)]
theorem qK {s : Bool} {x y : Rat} (hd : x.den = y.den) (h : decide (x.num < 0) = s) : sgQ s (x.num.natAbs + y.num.natAbs) x.den = x + yQ s y := by
 rw [← qE h, ← hd, ← Nat.add_mul, CL _ _ _ _ x.den_pos]
theorem qI {s : Bool} {x y : Rat} (hd : x.den = y.den) (h : decide (x.num < 0) ≠ s) (hm : y.num.natAbs ≤ x.num.natAbs) : sgQ (decide (x.num < 0)) (x.num.natAbs - y.num.natAbs) x.den = x + yQ s y := by
 rw [← qC h (by rw [hd]; exact Nat.mul_le_mul_right _ hm), ← hd, ← Nat.sub_mul, CL _ _ _ _ x.den_pos]
theorem qJ {s : Bool} {x y : Rat} (hd : x.den = y.den) (h : decide (x.num < 0) ≠ s) (hm : x.num.natAbs ≤ y.num.natAbs) : sgQ s (y.num.natAbs - x.num.natAbs) x.den = x + yQ s y := by
 rw [← qD h (by rw [hd]; exact Nat.mul_le_mul_right _ hm), ← hd, ← Nat.sub_mul, CL _ _ _ _ x.den_pos]
theorem vF {d e : Nat} (hd : d ≠ 0) (he : e ≠ 0) (h : denL d = denL e) : d = e := by
 by_cases h1 : d = 1
 ·subst h1
  have : (denL e).length = 0 := by rw [← h]; rfl
  exact (A4 he this).symm
 ·by_cases h2 : e = 1
  ·subst h2
   exact A4 hd (by rw [h]; rfl)
  ·unfold denL at h
   rw [if_neg h1, if_neg h2] at h
   have := congrArg valL h
   rwa [qn, qn] at this
theorem BH {x y a b : Nat} (h : lt2 x a) (k : le2 y b) : lt2 (x * y) (a + b) := by
 unfold lt2 le2 at *
 rw [Nat.pow_add]
 exact Nat.lt_of_le_of_lt (Nat.mul_le_mul_left _ k) (Nat.mul_lt_mul_of_pos_right h (Nat.pow_pos (by decide)))
theorem Fl {s : Bool} {x y : Rat} {b c : Bd} (hx : Bnd .rat b x) (hy : Bnd .rat c y) : Bnd .rat (.n (b.nb + c.nb + 1)) (x + yQ s y) := by
 have h1 := BH hx.rat.1 hy.rat.2
 have h2 := BH hy.rat.1 hx.rat.2
 have h3 := Js hx.rat.2 hy.rat.2
 have h4 : lt2 (x.num.natAbs * y.den + y.num.natAbs * x.den) (b.nb + c.nb + 1) := by
  rw [Nat.add_comm c.nb] at h2
  have := Da h1 h2
  rwa [Nat.max_self] at this
 have hp := Nat.mul_pos x.den_pos y.den_pos
 have h5 : le2 (x.den * y.den) (b.nb + c.nb + 1) := w5 (Nat.le_succ _) h3
 by_cases e : decide (x.num < 0) = s
 ·rw [← qE e]; exact qw h4 h5 hp
 ·rcases Nat.le_total (y.num.natAbs * x.den) (x.num.natAbs * y.den) with hm | hm
  ·rw [← qC e hm]; exact qw (Ab h4 (by omega)) h5 hp
  ·rw [← qD e hm]; exact qw (Ab h4 (by omega)) h5 hp
def cy (a b : Nat) : Nat := (a + b) / 18446744073709551616
theorem Xf {a b : Nat} (h : a ≤ 4294967295 * 4294967295) (k : b ≤ 4294967295 * 4294967295) : cy a b ≤ 1 := by unfold cy; omega
theorem A3 {a b : Nat} (h : cy a b = 0) : (a + b) % 18446744073709551616 = a + b := by unfold cy at h; omega
theorem DE {x y : Rat} {b c : Bd} (hx : Bnd .rat b x) (hy : Bnd .rat c y) : Bnd .rat (.n (b.nb + c.nb + 1)) (x + y) := by
 have := Fl (s := decide (y.num < 0)) hx hy
 rwa [Bh] at this
theorem E2 {x y : Rat} {b c : Bd} (hx : Bnd .rat b x) (hy : Bnd .rat c y) : Bnd .rat (.n (b.nb + c.nb + 1)) (x - y) := by
 have := Fl (s := !decide (y.num < 0)) hx hy
 rwa [NM, ← Rat.sub_eq_add_neg] at this
theorem FN {x y : Rat} {b c : Bd} (hx : Bnd .rat b x) (hy : Bnd .rat c y) : Bnd .rat (.n (b.nb + c.nb)) (x / y) := by
 by_cases h : y.num.natAbs = 0
 ·rw [vM h, Rat.div_def, Rat.inv_zero, Rat.mul_zero]
  exact ⟨Nat.pow_pos (by decide), Nat.pow_pos (by decide)⟩
 ·rw [← zS h]
  have h2 := BH hy.rat.1 hx.rat.2
  rw [Nat.add_comm, Nat.mul_comm] at h2
  exact qw (BH hx.rat.1 hy.rat.2) (qz h2) (Nat.mul_pos x.den_pos (by omega))
theorem Q9 {x y : Rat} (h : y.num.natAbs = 0) : 0 = x / y := by rw [vM h, Rat.div_def, Rat.inv_zero, Rat.mul_zero]
def quoC (y : Rat) : Int := if y.num.natAbs = 0 then 3 else 0
theorem MR (y : Rat) : (quoC y).natAbs ≤ 3 := by unfold quoC; split <;> decide
theorem Ie {y : Rat} : sgnQ y = 0 ↔ y.num.natAbs = 0 := by
 unfold sgnQ; split
 ·simp_all
 ·split <;> simp_all
def cmpQ (x y : Rat) : Int := if x < y then -1 else if x = y then 0 else 1
theorem zZ (x y : Rat) : (cmpQ x y).natAbs ≤ 1 := by
 unfold cmpQ; split
 ·decide
 ·split <;> decide
def cmpL (x y : Rat) : Int := cmpN (x.num.natAbs * y.den) (y.num.natAbs * x.den)
theorem EW {x y : Rat} : x = y ↔ x.num * y.den = y.num * x.den := by
 constructor
 ·intro h; subst h; rfl
 ·intro h
  rw [← Rat.mkRat_self x, ← Rat.mkRat_self y]
  exact (Rat.mkRat_eq_iff x.den_nz y.den_nz).2 h
theorem Ft (x y : Rat) : cmpQ x y = if x.num * y.den < y.num * x.den then -1 else if x.num * y.den = y.num * x.den then 0 else 1 := by
 unfold cmpQ
 by_cases h : x < y
 ·rw [if_pos h, if_pos ((Rat.lt_iff x y).1 h)]
 ·rw [if_neg h, if_neg (mt (Rat.lt_iff x y).2 h)]
  by_cases e : x = y
  ·rw [if_pos e, if_pos (EW.1 e)]
  ·rw [if_neg e, if_neg (mt EW.2 e)]
theorem Nb (z : Int) {d : Nat} (hd : 0 < d) : (z < 0 → z * (d : Int) < 0) ∧ (z = 0 → z * (d : Int) = 0) ∧ (0 < z → 0 < z * (d : Int)) :=
 ⟨fun h => Int.mul_neg_of_neg_of_pos h (by omega), fun h => by rw [h, Int.zero_mul], fun h => Int.mul_pos h (by omega)⟩
theorem zd (x : Rat) : (x.num < 0 ∧ sgnQ x = -1) ∨ (x.num = 0 ∧ sgnQ x = 0) ∨ (0 < x.num ∧ sgnQ x = 1) := by
 unfold sgnQ
 by_cases h : x.num.natAbs = 0
 ·rw [if_pos h]; omega
 ·rw [if_neg h]
  by_cases h2 : x.num < 0
  ·rw [if_pos h2]; omega
  ·rw [if_neg h2]; omega
theorem qL {x y : Rat} (h : sgnQ x ≠ sgnQ y) : (sgnQ x < sgnQ y → cmpQ x y = -1) ∧ (¬ sgnQ x < sgnQ y → cmpQ x y = 1) := by
 have h1 := Nb x.num y.den_pos
 have h2 := Nb y.num x.den_pos
 have c1 := zd x
 have c2 := zd y
 rw [Ft]
 generalize x.num * (y.den : Int) = A at *
 generalize y.num * (x.den : Int) = B at *
 refine ⟨fun hl => ?_, fun hl => ?_⟩
 ·rw [if_pos (by omega)]
 ·rw [if_neg (by omega), if_neg (by omega)]
theorem jm {x y : Rat} (hs : sgnQ x = sgnQ y) (h : ¬ x.num < 0) : cmpQ x y = cmpL x y := by
 have c1 := zd x
 have c2 := zd y
 have e1 : x.num * (y.den : Int) = ((x.num.natAbs * y.den : Nat) : Int) := by rw [Int.natCast_mul, Int.natAbs_of_nonneg (by omega)]
 have e2 : y.num * (x.den : Int) = ((y.num.natAbs * x.den : Nat) : Int) := by rw [Int.natCast_mul, Int.natAbs_of_nonneg (by omega)]
 rw [Ft, e1, e2]
 unfold cmpL cmpN
 generalize x.num.natAbs * y.den = A
 generalize y.num.natAbs * x.den = B
 by_cases g : A < B
 ·rw [if_pos (by omega), if_pos g]
 ·rw [if_neg (by omega), if_neg g]
  by_cases g2 : A = B
  ·rw [if_pos (by omega), if_pos g2]
  ·rw [if_neg (by omega), if_neg g2]
theorem jl {x y : Rat} (hs : sgnQ x = sgnQ y) (h : x.num < 0) : cmpQ x y = -cmpL x y := by
 have c1 := zd x
 have c2 := zd y
 have e1 : x.num * (y.den : Int) = -((x.num.natAbs * y.den : Nat) : Int) := by
  rw [Int.natCast_mul, ← Int.neg_mul]; congr 1; omega
 have e2 : y.num * (x.den : Int) = -((y.num.natAbs * x.den : Nat) : Int) := by
  rw [Int.natCast_mul, ← Int.neg_mul]; congr 1; omega
 rw [Ft, e1, e2]
 unfold cmpL cmpN
 generalize x.num.natAbs * y.den = A
 generalize y.num.natAbs * x.den = B
 by_cases g : A < B
 ·rw [if_neg (by omega), if_neg (by omega), if_pos g]; rfl
 ·rw [if_neg g]
  by_cases g2 : A = B
  ·rw [if_neg (by omega), if_pos (by omega), if_pos g2]; rfl
  ·rw [if_pos (by omega), if_neg g2]
theorem NW {a b c : Nat} (h : 0 < c) : cmpN (a * c) (b * c) = cmpN a b := by
 unfold cmpN
 simp only [Nat.mul_lt_mul_right h, Nat.mul_left_inj (Nat.ne_of_gt h)]
theorem qm {x y : Rat} (h : x.den = y.den) : cmpN x.num.natAbs y.num.natAbs = cmpL x y := by
 unfold cmpL; rw [← h, NW x.den_pos]
theorem qX {x y : Rat} (hx : pn x = x.num.natAbs ∧ pd x = x.den ∧ 0 < pd x) (hy : pn y = y.num.natAbs ∧ pd y = y.den ∧ 0 < pd y) : cmpL x y = cmpN (pn x * pd y) (pn y * pd x) := by
 unfold cmpL; rw [hx.1, hx.2.1, hy.1, hy.2.1]
theorem Mm {a b : Nat} (h : limbs a = limbs b) : a = b := by
 have := congrArg valL h
 rwa [qn, qn] at this
theorem BP (x y : Rat) : x = y ↔ decide (x.num < 0) = decide (y.num < 0) ∧ limbs x.num.natAbs = limbs y.num.natAbs ∧ denL x.den = denL y.den := by
 constructor
 ·intro h; subst h; exact ⟨rfl, rfl, rfl⟩
 ·rintro ⟨h1, h2, h3⟩
  rw [← zG x, ← zG y, h1, Mm h2, vF x.den_nz y.den_nz h3]
theorem KY {x y : Rat} (h : ¬ decide (x.num < 0) = decide (y.num < 0)) : false = decide (x = y) := (decide_eq_false (fun e => h ((BP x y).1 e).1)).symm
theorem KZ {x y : Rat} (h : ¬ decide (limbs x.num.natAbs = limbs y.num.natAbs) = true) : false = decide (x = y) := (decide_eq_false (fun e => h (decide_eq_true ((BP x y).1 e).2.1))).symm
theorem L0 {x y : Rat} (h1 : decide (x.num < 0) = decide (y.num < 0)) (h2 : decide (limbs x.num.natAbs = limbs y.num.natAbs) = true) : decide (denL x.den = denL y.den) = decide (x = y) := by
 rw [decide_eq_decide, BP]
 exact ⟨fun h => ⟨h1, of_decide_eq_true h2, h⟩, fun h => h.2.2⟩
def minQ (x y : Rat) : Rat := if cmpQ y x < 0 then y else x
def maxQ (x y : Rat) : Rat := if 0 < cmpQ y x then y else x
theorem DT {x y : Rat} {b c : Bd} (hx : Bnd .rat b x) (hy : Bnd .rat c y) : Bnd .rat (.n (max b.nb c.nb)) (minQ x y) := by
 unfold minQ; split
 ·exact ⟨q9 (Nat.le_max_right _ _) hy.rat.1, w5 (Nat.le_max_right _ _) hy.rat.2⟩
 ·exact ⟨q9 (Nat.le_max_left _ _) hx.rat.1, w5 (Nat.le_max_left _ _) hx.rat.2⟩
theorem OA {x y : Rat} {b c : Bd} (hx : Bnd .rat b x) (hy : Bnd .rat c y) : Bnd .rat (.n (max b.nb c.nb)) (maxQ x y) := by
 unfold maxQ; split
 ·exact ⟨q9 (Nat.le_max_right _ _) hy.rat.1, w5 (Nat.le_max_right _ _) hy.rat.2⟩
 ·exact ⟨q9 (Nat.le_max_left _ _) hx.rat.1, w5 (Nat.le_max_left _ _) hx.rat.2⟩
theorem SubI.lt {x y i c s : Nat} {out : List Nat} (h : SubI x y i c out) (hi : i < (limbs x).length) (hs : s = c + (limbs y).getD i 0) (hl : (limbs x).getD i 0 < s) :
    SubI x y (i + 1) 1 (out.set i (((limbs x).getD i 0 + 4294967296 - s) % 4294967296)) := by
  have h1 := q7 x i
  have h2 := q7 y i
  have hc := h.hc
  have := h.step hi hs
  have e : dif ((limbs x).getD i 0) s = (limbs x).getD i 0 + 18446744073709551616 - s := by rw [AZ]; omega
  rw [e, show ((limbs x).getD i 0 + 18446744073709551616 - s) / 9223372036854775808 = 1 by omega, show ((limbs x).getD i 0 + 18446744073709551616 - s) % 4294967296 = ((limbs x).getD i 0 + 4294967296 - s) % 4294967296 by omega] at this
  exact this
theorem SubI.ge {x y i c s : Nat} {out : List Nat} (h : SubI x y i c out) (hi : i < (limbs x).length) (hs : s = c + (limbs y).getD i 0) (hl : ¬ (limbs x).getD i 0 < s) :
    SubI x y (i + 1) 0 (out.set i ((limbs x).getD i 0 - s)) := by
  have h1 := q7 x i
  have := h.step hi hs
  have e : dif ((limbs x).getD i 0) s = (limbs x).getD i 0 - s := by rw [AZ]; omega
  rw [e, show ((limbs x).getD i 0 - s) / 9223372036854775808 = 0 by omega, show ((limbs x).getD i 0 - s) % 4294967296 = (limbs x).getD i 0 - s by omega] at this
  exact this
def xw (x : Nat) : Nat := if (limbs x).length ≤ 2 then x else 0
def xk (x : Nat) : Bool := decide ((limbs x).length ≤ 2)
theorem Y1 (x : Nat) : xw x ≤ 18446744073709551615 := by
 unfold xw; split
 ·exact Nat.le_of_lt_succ (HN (by assumption))
 ·omega
theorem xw_y {x : Nat} (h : (limbs x).length ≤ 2) : xw x = x ∧ xk x = true := ⟨if_pos h, decide_eq_true h⟩
theorem xw_n {x : Nat} (h : ¬ (limbs x).length ≤ 2) : xw x = 0 ∧ xk x = false := ⟨if_neg h, decide_eq_false h⟩
theorem Nn {x : Nat} (h : (limbs x).length = 2) : (limbs x).getD 0 0 + (limbs x).getD 1 0 * 2 ^ 32 = x := by
 have h1 := vk (x := x) (by omega)
 rw [h] at h1
 have h2 := qA (limbs x) 0
 simp only [Nat.reduceSub, Nat.zero_add, List.take_zero, valL, Nat.pow_zero, Nat.pow_one, Nat.one_mul] at h1 h2
 omega
theorem Qj {v : Nat} (h : v ≠ 0) : bl v = bl (v / 2 ^ 1) + 1 := by
 by_cases e : v = 1
 ·subst e; decide
 ·exact wZ (k := 1) (show 2 ^ 1 ≤ v by omega)
theorem CS (l : List Nat) (u : Nat) : valL (l ++ [u]) = valL l + 4294967296 ^ l.length * u := by rw [zy]; simp [valL]
theorem BU : ∀ (n : Nat), valL (List.replicate n 0) = 0
 | 0 => rfl
 | n + 1 => by rw [List.replicate_succ, valL, BU n]
theorem G1 {l : List Nat} {u : Nat} (h : ∀ v ∈ l, v < 4294967296) (hu : u < 4294967296) : ∀ v ∈ l ++ [u], v < 4294967296 := by
 intro v hv
 rcases List.mem_append.1 hv with hv | hv
 ·exact h v hv
 ·rw [List.mem_singleton.1 hv]; exact hu
theorem HH {l : List Nat} (hu : ∀ v ∈ l, v < 4294967296) (h : (limbs (valL l)).length = l.length) : l = limbs (valL l) := by
 have h1 := EQ hu
 have h2 := EQ (qO (valL l))
 rw [qn, h] at h2
 exact h1.trans h2.symm
theorem XE {x n : Nat} (h : n < (limbs x).length) : 4294967296 ^ n ≤ x := by
 apply Nat.le_of_not_lt
 intro hl
 have := Au (n := x) (k := n) hl
 unfold nl at this; omega
structure AddX (x y i c : Nat) (out : List Nat) : Prop where
 hl : out.length = i
 hu : ∀ u ∈ out, u < 4294967296
 hc : c ≤ 1
 hv : valL out + 4294967296 ^ i * c = valL ((limbs x).take i) + valL ((limbs y).take i)
 hi : i ≤ max (limbs x).length (limbs y).length + 1
 hm : i = max (limbs x).length (limbs y).length + 1 → c = 0 ∧ 4294967296 ^ (max (limbs x).length (limbs y).length) ≤ x + y
theorem AddX.start (x y : Nat) : AddX x y 0 0 [] := ⟨rfl, fun u hu => by simp at hu, by omega, by simp [valL], by omega, fun h => by omega⟩
theorem AddX.le {x y i c : Nat} {out : List Nat} (h : AddX x y i c out) (hc : i < (limbs x).length ∨ i < (limbs y).length ∨ c ≠ 0) : i ≤ max (limbs x).length (limbs y).length := by
 have := h.hi
 rcases Nat.lt_or_ge (max (limbs x).length (limbs y).length) i with e | e
 ·have := h.hm (by omega); omega
 ·exact e
theorem AddX.step {x y i c s : Nat} {out : List Nat} (h : AddX x y i c out) (hc : i < (limbs x).length ∨ i < (limbs y).length ∨ c ≠ 0) (hs : s = c + (limbs x).getD i 0 + (limbs y).getD i 0) :
    AddX x y (i + 1) (s / 2 ^ 32) (out ++ [s % 4294967296]) := by
  have hx := q7 x i
  have hy := q7 y i
  have hc1 := h.hc
  have hle := h.le hc
  refine ⟨by simp [h.hl], G1 h.hu (Nat.mod_lt _ (by omega)), by omega, ?_, by omega, ?_⟩
  · rw [CS, h.hl, qA, qA, Nat.pow_succ]
    have e : 4294967296 ^ i * (s % 4294967296) + 4294967296 ^ i * 4294967296 * (s / 2 ^ 32) = 4294967296 ^ i * s := by
      rw [Nat.mul_assoc, ← Nat.mul_add, show s / 2 ^ 32 = s / 4294967296 from rfl, Nat.mod_add_div]
    have e2 : 4294967296 ^ i * s = 4294967296 ^ i * c + 4294967296 ^ i * (limbs x).getD i 0 + 4294967296 ^ i * (limbs y).getD i 0 := by rw [hs, Nat.mul_add, Nat.mul_add]
    have := h.hv
    omega
  · intro e
    have hx0 : (limbs x).getD i 0 = 0 := qo (by omega)
    have hy0 : (limbs y).getD i 0 = 0 := qo (by omega)
    have hv := h.hv
    have hc0 : c = 1 := by omega
    rw [jj (by omega), jj (by omega), qn, qn, hc0, show i = max (limbs x).length (limbs y).length by omega] at hv
    refine ⟨by omega, by omega⟩
theorem AddX.step2 {x y i c s u : Nat} {out : List Nat} (h : AddX x y i c out) (hc : i < (limbs x).length ∨ i < (limbs y).length ∨ c ≠ 0) (hs : s = c + (limbs x).getD i 0 + (limbs y).getD i 0) (hu : u = s % 4294967296) :
    AddX x y (i + 1) (s / 2 ^ 32) (out ++ [u]) := by subst hu; exact h.step hc hs
theorem AddX.fin {x y i c : Nat} {out : List Nat} (h : AddX x y i c out) (h1 : ¬ i < (limbs x).length) (h2 : ¬ i < (limbs y).length) (h0 : c = 0) : out = limbs (x + y) := by
 have hv := h.hv
 rw [jj (by omega), jj (by omega), qn, qn, h0, Nat.mul_zero, Nat.add_zero] at hv
 rw [← hv]
 refine HH h.hu ?_
 have l1 := FG h.hu
 have l2 : (limbs x).length ≤ (limbs (valL out)).length := jQ (by omega)
 have l3 : (limbs y).length ≤ (limbs (valL out)).length := jQ (by omega)
 have hl := h.hl
 have hi := h.hi
 rcases Nat.lt_or_ge (max (limbs x).length (limbs y).length) i with e | e
 ·have h9 := (h.hm (by omega)).2
  have : max (limbs x).length (limbs y).length < (limbs (valL out)).length := by
   apply Nat.lt_of_not_le
   intro hl
   have h3 := jo (limbs (valL out)) (qO _)
   rw [qn] at h3
   have h4 := Nat.pow_le_pow_right (show 0 < 4294967296 by omega) hl
   omega
  omega
 ·omega
theorem ME {a b : List Nat} (hb : b ≠ []) (h : zn b = true) : zn (a ++ b) = true := by
 induction a with
 | nil => exact h
 | cons v r ih => rw [List.cons_append, BM (by simp [hb])]; exact ih
theorem DD {x k : Nat} (hx : x ≠ 0) : List.replicate k 0 ++ limbs x = limbs (x * 4294967296 ^ k) := by
 have hne : limbs x ≠ [] := by rw [jK hx]; simp
 have hu : ∀ u ∈ List.replicate k 0 ++ limbs x, u < 4294967296 := by
  intro u hu
  rcases List.mem_append.1 hu with hu | hu
  ·exact rep_lt k u hu
  ·exact qO x u hu
 have := BE hu (ME hne (KD x))
 rw [zy, BU, qn, List.length_replicate, Nat.zero_add, Nat.mul_comm] at this
 exact this.symm
theorem Gv (s : Nat) : 4294967296 ^ (s / 32) * 2 ^ (s % 32) = 2 ^ s := by
 rw [show (4294967296 : Nat) = 2 ^ 32 from rfl, ← Nat.pow_mul, ← Nat.pow_add, Nat.div_add_mod]
structure UpX (x s i c : Nat) (out : List Nat) : Prop where
 hl : out.length = s / 32 + i
 hu : ∀ u ∈ out, u < 4294967296
 hc : c < 2 ^ (s % 32)
 hi : i ≤ (limbs x).length
 hv : valL out + 4294967296 ^ (s / 32 + i) * c = 4294967296 ^ (s / 32) * (valL ((limbs x).take i) * 2 ^ (s % 32))
theorem UpX.start (x s : Nat) : UpX x s 0 0 (List.replicate (s / 32) 0) := ⟨by simp, rep_lt _, Nat.pow_pos (by omega), by omega, by simp [valL, BU]⟩
theorem UpX.step {x s i c d : Nat} {out : List Nat} (h : UpX x s i c out) (hi : i < (limbs x).length) (hd : d = c + (limbs x).getD i 0 * 2 ^ (s % 32)) : UpX x s (i + 1) (d / 2 ^ 32) (out ++ [d % 4294967296]) := by
 have hx := q7 x i
 have hc := h.hc
 refine ⟨by simp [h.hl]; omega, G1 h.hu (Nat.mod_lt _ (by omega)), ?_, by omega, ?_⟩
 ·rw [Nat.div_lt_iff_lt_mul (by omega)]
  have h1 : (limbs x).getD i 0 * 2 ^ (s % 32) ≤ 4294967295 * 2 ^ (s % 32) := Nat.mul_le_mul_right _ (by omega)
  omega
 ·rw [CS, h.hl, qA, ← Nat.add_assoc, Nat.pow_succ]
  have e : 4294967296 ^ (s / 32 + i) * (d % 4294967296) + 4294967296 ^ (s / 32 + i) * 4294967296 * (d / 2 ^ 32) = 4294967296 ^ (s / 32 + i) * d := by
   rw [Nat.mul_assoc, ← Nat.mul_add, show d / 2 ^ 32 = d / 4294967296 from rfl, Nat.mod_add_div]
  have e2 : 4294967296 ^ (s / 32 + i) * d = 4294967296 ^ (s / 32 + i) * c + 4294967296 ^ (s / 32) * (4294967296 ^ i * (limbs x).getD i 0 * 2 ^ (s % 32)) := by
   rw [hd, Nat.mul_add, Nat.pow_add]; simp only [Nat.mul_assoc]
  have := h.hv
  rw [Nat.add_mul, Nat.mul_add]
  omega
theorem UpX.fin {x s i c : Nat} {out : List Nat} (h : UpX x s i c out) (hi : ¬ i < (limbs x).length) : valL (out ++ [c]) = x * 2 ^ s ∧ ∀ u ∈ out ++ [c], u < 4294967296 := by
 have hc := h.hc
 have h1 := Nat.pow_le_pow_right (show 0 < 2 by omega) (show s % 32 ≤ 32 by omega)
 refine ⟨?_, G1 h.hu (by omega)⟩
 have hv := h.hv
 rw [jj (by omega), qn] at hv
 rw [CS, h.hl, hv, ← Gv s, Nat.mul_left_comm]
theorem XU {x s i c : Nat} {out : List Nat} (h : UpX x s i c out) : c + (limbs x).getD i 0 * 2 ^ (s % 32) < 18446744073709551616 := Gu (q7 x i) (by omega) h.hc
theorem Bu : ∀ (k x : Nat), (limbs x).drop k = limbs (x / 4294967296 ^ k)
 | 0, x => by simp
 | k + 1, x => by
  by_cases e : x = 0
  ·subst e; simp [zl]
  ·rw [jK e, List.drop_succ_cons, Bu k, Nat.pow_succ, Nat.mul_comm, Nat.div_div_eq_div_mul]
structure DownX (w r i : Nat) (out : List Nat) : Prop where
 hl : out.length = (limbs w).length
 hi : i ≤ (limbs w).length
 hu : ∀ u ∈ out, u < 4294967296
 hv : valL (out.take i) = w / 2 ^ r % 4294967296 ^ i
theorem DownX.start (w r : Nat) : DownX w r 0 (List.replicate (limbs w).length 0) := ⟨by simp, by omega, rep_lt _, by simp [valL, Nat.mod_one]⟩
theorem O3 {m r : Nat} (hr : r ≤ 32) : m / 2 ^ r % 4294967296 = (m % 18446744073709551616) / 2 ^ r % 4294967296 := by
 have h1 : (2 : Nat) ^ r * 2 ^ (64 - r) = 18446744073709551616 := by rw [← Nat.pow_add, show r + (64 - r) = 64 by omega]
 have h2 : (2 : Nat) ^ (64 - r) = 4294967296 * 2 ^ (32 - r) := by rw [show (4294967296 : Nat) = 2 ^ 32 from rfl, ← Nat.pow_add]; congr 1; omega
 have h3 := Nat.div_add_mod m 18446744073709551616
 generalize m % 18446744073709551616 = v at *
 rw [← h3, ← h1, Nat.mul_assoc, Nat.mul_add_div (Nat.pow_pos (by omega)), h2, Nat.mul_assoc, Nat.mul_add_mod]
theorem DownX.step {w r i v : Nat} {out : List Nat} (h : DownX w r i out) (hr : r ≤ 32) (hi : i < (limbs w).length) (hv : v = (limbs w).getD i 0 + (limbs w).getD (i + 1) 0 * 4294967296) :
    DownX w r (i + 1) (out.set i (v / 2 ^ r % 4294967296)) := by
  have hl := h.hl
  refine ⟨by simp [hl], by omega, jk h.hu (Nat.mod_lt _ (by omega)), ?_⟩
  rw [jE (by omega), h.hv, Nat.mod_pow_succ]
  congr 2
  have e1 := zE (qO w) i
  have e2 := zE (qO w) (i + 1)
  rw [qn] at e1 e2
  rw [Nat.pow_succ, ← Nat.div_div_eq_div_mul] at e2
  rw [e1, e2] at hv
  rw [Nat.div_div_eq_div_mul, Nat.mul_comm, ← Nat.div_div_eq_div_mul, @O3 (w / 4294967296 ^ i) r hr]
  congr 2
  generalize w / 4294967296 ^ i = m at *
  omega
theorem DownX.fin {w r i : Nat} {out : List Nat} (h : DownX w r i out) (hi : ¬ i < (limbs w).length) : valL out = w / 2 ^ r := by
 have hv := h.hv
 have h1 := h.hi
 have e : i = (limbs w).length := by omega
 have hl := h.hl
 rw [jj (by omega)] at hv
 rw [hv, Nat.mod_eq_of_lt]
 have := jo (limbs w) (qO w)
 rw [qn, ← e] at this
 exact Nat.lt_of_le_of_lt (Nat.div_le_self _ _) this
theorem Hs (x s : Nat) : x / 4294967296 ^ (s / 32) / 2 ^ (s % 32) = x / 2 ^ s := by rw [Nat.div_div_eq_div_mul, Gv]
theorem LT {x s : Nat} (h : (limbs x).length ≤ s / 32) : 0 = x / 2 ^ s := by
 rw [← Hs, Nat.div_eq_of_lt (a := x), Nat.zero_div]
 have h1 := jo (limbs x) (qO x)
 rw [qn] at h1
 exact Nat.lt_of_lt_of_le h1 (Nat.pow_le_pow_right (by omega) h)
theorem GE : ∀ {ls : List Nat} {k d : Nat}, k < ls.length → ls.getD k 0 = 0 → valL (ls.set k d) = valL ls + 4294967296 ^ k * d
 | u :: r, 0, d, _, h => by simp at h; subst h; simp [valL]; omega
 | u :: r, k + 1, d, hk, h => by
  simp only [List.getD_cons_succ] at h
  simp only [List.length_cons] at hk
  rw [List.set_cons_succ, valL, valL, GE (by omega) h, Nat.pow_succ, Nat.mul_add, ← Nat.mul_assoc, Nat.mul_comm 4294967296 (4294967296 ^ k)]; omega
structure DX (A V L : Nat) (z : Int) (q : List Nat) (r : Nat) : Prop where
 hz : -1 ≤ z
 hz1 : z < L
 hl : q.length = L
 hu : ∀ u ∈ q, u < 4294967296
 hv : A = valL q * V + r
 hr : r < V * 4294967296 ^ (z + 1).toNat
 h0 : ∀ j : Nat, (j : Int) ≤ z → q.getD j 0 = 0
theorem DX.start {A V L n : Nat} (hn0 : 0 < n) (hn : n = (limbs V).length) (hn : n ≤ (limbs A).length) (hL : L = (limbs A).length - n + 1) : DX A V L (((limbs A).length : Int) - n) (List.replicate L 0) A := by
 refine ⟨by omega, by omega, by simp, rep_lt _, by rw [BU]; omega, ?_, fun j _ => ?_⟩
 ·have h1 := jo (limbs A) (qO A)
  rw [qn] at h1
  have h2 := XE (x := V) (n := n - 1) (by omega)
  have h3 : (4294967296 : Nat) ^ (limbs A).length = 4294967296 ^ (n - 1) * 4294967296 ^ ((limbs A).length - n + 1) := by rw [← Nat.pow_add]; congr 1; omega
  rw [show ((((limbs A).length : Int) - n + 1).toNat) = (limbs A).length - n + 1 by omega]
  rw [h3] at h1
  exact Nat.lt_of_lt_of_le h1 (Nat.mul_le_mul_right _ h2)
 ·simp [List.getD_eq_getElem?_getD, List.getElem?_replicate]; split <;> rfl
structure EX (V k r d p : Nat) : Prop where
 hp : p = V * d * 4294967296 ^ k
 hd : r / (V * 4294967296 ^ k) ≤ d
 h1 : d ≤ 4294967295
theorem DX.est {A V L n k T : Nat} {z : Int} {q : List Nat} {r : Nat} (h : DX A V L z q r) (hz : 0 ≤ z) (hk : k = z.toNat) (hV : 0 < V) (hn0 : 0 < n) (hn : n = (limbs V).length)
    (hT : T = (limbs r).getD (k + n) 0 * 4294967296 + (limbs r).getD (k + n - 1) 0) :
    EX V k r (min (T / (limbs V).getD (n - 1) 0) 4294967295) (V * min (T / (limbs V).getD (n - 1) 0) 4294967295 * 4294967296 ^ k) := by
  have hP := Nat.mul_pos hV (Nat.pow_pos (n := k) (show 0 < 4294967296 by omega))
  have hr := h.hr
  rw [show (z + 1).toNat = k + 1 by omega, Nat.pow_succ, ← Nat.mul_assoc] at hr
  have hq : r / (V * 4294967296 ^ k) < 4294967296 := by rw [Nat.div_lt_iff_lt_mul hP, Nat.mul_comm]; exact hr
  refine ⟨rfl, Nat.le_min.2 ⟨?_, by omega⟩, Nat.min_le_right _ _⟩
  have hv := DQ V (n - 1) (by omega)
  have hvp : 0 < (limbs V).getD (n - 1) 0 := by
    have := zA (x := V) (by omega)
    rw [← hn] at this; omega
  rw [Nat.le_div_iff_mul_le hvp]
  have e1 := zE (qO r) (k + n)
  have e2 := zE (qO r) (k + n - 1)
  rw [qn] at e1 e2
  have hVl := jo (limbs V) (qO V)
  rw [qn, ← hn] at hVl
  -- the top of r
  have hT2 : T = r / 4294967296 ^ (k + n - 1) := by
    have hrl : r / 4294967296 ^ (k + n - 1) < 18446744073709551616 := by
      rw [Nat.div_lt_iff_lt_mul (Nat.pow_pos (by omega))]
      have e3 : 18446744073709551616 * 4294967296 ^ (k + n - 1) = 4294967296 ^ n * 4294967296 ^ k * 4294967296 := by
        rw [← Nat.pow_add, show (18446744073709551616 : Nat) = 4294967296 ^ 2 from rfl, ← Nat.pow_add, ← Nat.pow_succ]; congr 1; omega
      rw [e3]
      refine Nat.lt_of_lt_of_le hr (Nat.mul_le_mul_right _ (Nat.mul_le_mul_right _ (Nat.le_of_lt hVl)))
    have e4 : r / 4294967296 ^ (k + n) = r / 4294967296 ^ (k + n - 1) / 4294967296 := by
      rw [Nat.div_div_eq_div_mul, ← Nat.pow_succ]; congr 2; omega
    rw [e4] at e1
    rw [hT, e1, e2]
    generalize r / 4294967296 ^ (k + n - 1) = m at *
    omega
  rw [hT2, Nat.le_div_iff_mul_le (Nat.pow_pos (by omega)), hv]
  have h5 : V / 4294967296 ^ (n - 1) * 4294967296 ^ (n - 1) ≤ V := Nat.div_mul_le_self _ _
  have h6 : r / (V * 4294967296 ^ k) * (V * 4294967296 ^ k) ≤ r := Nat.div_mul_le_self _ _
  have e5 : (4294967296 : Nat) ^ (k + n - 1) = 4294967296 ^ (n - 1) * 4294967296 ^ k := by rw [← Nat.pow_add]; congr 1; omega
  rw [e5, Nat.mul_assoc, ← Nat.mul_assoc (V / _)]
  exact Nat.le_trans (Nat.mul_le_mul_left _ (Nat.mul_le_mul_right _ h5)) h6
theorem EX.gt {V k r d p : Nat} (h : EX V k r d p) (hV : 0 < V) (hc : r < p) : 1 ≤ d ∧ V * 4294967296 ^ k ≤ p ∧ EX V k r (d - 1) (p - V * 4294967296 ^ k) := by
 have hP := Nat.mul_pos hV (Nat.pow_pos (n := k) (show 0 < 4294967296 by omega))
 have h1 := h.h1
 have hp : p = d * (V * 4294967296 ^ k) := by rw [h.hp, Nat.mul_comm V d, Nat.mul_assoc]
 have hlt : r / (V * 4294967296 ^ k) < d := by rw [Nat.div_lt_iff_lt_mul hP, ← hp]; exact hc
 have hd1 : 1 ≤ d := Nat.lt_of_le_of_lt (Nat.zero_le _) hlt
 refine ⟨hd1, ?_, ?_, Nat.le_sub_one_of_lt hlt, by omega⟩
 ·rw [hp]; exact Nat.le_mul_of_pos_left _ (by omega)
 ·rw [Nat.mul_comm V (d - 1), Nat.mul_assoc, Nat.sub_mul, ← hp, Nat.one_mul]
theorem DX.next {A V L k d p : Nat} {z : Int} {q : List Nat} {r : Nat} (h : DX A V L z q r) (hz : 0 ≤ z) (hk : k = z.toNat) (hV : 0 < V) (e : EX V k r d p) (hc : p ≤ r) : DX A V L (z - 1) (q.set k d) (r - p) := by
 have hP := Nat.mul_pos hV (Nat.pow_pos (n := k) (show 0 < 4294967296 by omega))
 have hz1 := h.hz1
 have hl := h.hl
 have h1 := e.h1
 have hp : p = d * (V * 4294967296 ^ k) := by rw [e.hp, Nat.mul_comm V d, Nat.mul_assoc]
 have hd : r < (d + 1) * (V * 4294967296 ^ k) := by rw [← Nat.div_lt_iff_lt_mul hP]; exact Nat.lt_succ_of_le e.hd
 refine ⟨by omega, by omega, by simp [hl], jk h.hu (by omega), ?_, ?_, fun j hj => ?_⟩
 ·rw [GE (by omega) (h.h0 k (by omega)), Nat.add_mul, h.hv]
  rw [Nat.mul_comm (4294967296 ^ k) d, Nat.mul_assoc, Nat.mul_comm (4294967296 ^ k) V, ← hp]; omega
 ·rw [show (z - 1 + 1).toNat = k by omega]
  rw [Nat.add_mul, ← hp] at hd; omega
 ·rw [AL (by omega)]; exact h.h0 j (by omega)
theorem DX.fin {x y s L : Nat} {z : Int} {q : List Nat} {r : Nat} (h : DX (x * 2 ^ s) (y * 2 ^ s) L z q r) (hy : 0 < y) (hz : z < 0) : valL q = x / y ∧ r / 2 ^ s = x % y := by
 have hp := Nat.pow_pos (n := s) (show 0 < 2 by omega)
 have h1 := h.hz
 have hr := h.hr
 have hv := h.hv
 rw [show (z + 1).toNat = 0 by omega, Nat.pow_zero, Nat.mul_one] at hr
 have e1 : (x * 2 ^ s) / (y * 2 ^ s) = valL q := by
  rw [hv, Nat.mul_comm (valL q), Nat.mul_add_div (Nat.mul_pos hy hp), Nat.div_eq_of_lt hr]; rfl
 have e2 : (x * 2 ^ s) % (y * 2 ^ s) = r := by rw [hv, Nat.mul_comm (valL q), Nat.mul_add_mod, Nat.mod_eq_of_lt hr]
 rw [Nat.mul_div_mul_right _ _ hp] at e1
 rw [Nat.mul_mod_mul_right] at e2
 exact ⟨e1.symm, by rw [← e2, Nat.mul_div_cancel _ hp]⟩
theorem Gs {x k a c : Nat} (h : lt2 x a) (hk : k ≤ c) : lt2 (x * 4294967296 ^ k) (a + 32 * c) := by
 unfold lt2 at *
 rw [show (4294967296 : Nat) = 2 ^ 32 from rfl, ← Nat.pow_mul, Nat.pow_add]
 exact Nat.lt_of_lt_of_le (Nat.mul_lt_mul_of_pos_right h (Nat.pow_pos (by omega))) (Nat.mul_le_mul_left _ (Nat.pow_le_pow_right (by omega) (by omega)))
theorem UK {x s a c : Nat} (h : lt2 x a) (hs : s ≤ c) : lt2 (x * 2 ^ s) (a + c) := by
 unfold lt2 at *
 rw [Nat.pow_add]
 exact Nat.lt_of_lt_of_le (Nat.mul_lt_mul_of_pos_right h (Nat.pow_pos (by omega))) (Nat.mul_le_mul_left _ (Nat.pow_le_pow_right (by omega) hs))
theorem FD {y : Nat} : lt2 (y / 4294967296 ^ ((limbs y).length - 1)) 32 := by
 unfold lt2
 rw [Nat.div_lt_iff_lt_mul (Nat.pow_pos (by omega)), show (2 : Nat) ^ 32 = 4294967296 from rfl, Nat.mul_comm, ← Nat.pow_succ]
 have h1 := jo (limbs y) (qO y)
 rw [qn] at h1
 exact Nat.lt_of_lt_of_le h1 (Nat.pow_le_pow_right (by omega) (by omega))
theorem TV {b : Nat} (h : b < 4294967296) : qx .or .u64 0 (b : Int) ((0 + b : Nat) : Int) := Aj (a := 0) (b := b) 0 32 rfl h (by omega)
def dm (d : Nat) : Nat := if d = 1 then 0 else d
theorem Jh (d : Nat) : denL d = limbs (dm d) := by unfold denL dm; split <;> rfl
theorem LR {d b : Nat} (h : le2 d b) : lt2 (dm d) (b + 1) := by
 unfold dm; split
 ·exact Nat.pow_pos (by omega)
 ·exact B5 h
theorem U9 {d e : Nat} (hd : d ≠ 0) (he : e ≠ 0) : cmpN (dm d) (dm e) = 0 ↔ d = e := by
 rw [AX]; unfold dm; split <;> split <;> omega
theorem ysame {x y : Rat} (h : ¬ decide (x.num < 0) = decide (y.num < 0) ∨ ¬ cmpN x.num.natAbs y.num.natAbs = 0 ∨ ¬ cmpN (dm x.den) (dm y.den) = 0) : false = decide (x = y) := by
 symm; apply decide_eq_false
 intro e; subst e
 rcases h with h | h | h
 ·exact h rfl
 ·exact h (AX.2 rfl)
 ·exact h (AX.2 rfl)
theorem X3 {x y : Rat} (h1 : decide (x.num < 0) = decide (y.num < 0)) (h2 : cmpN x.num.natAbs y.num.natAbs = 0) : decide (cmpN (dm x.den) (dm y.den) = 0) = decide (x = y) := by
 have e : cmpN (dm x.den) (dm y.den) = 0 ↔ x = y := by
  rw [U9 x.den_nz y.den_nz, BP x y]
  constructor
  ·intro h; exact ⟨h1, by rw [AX.1 h2], by rw [h]⟩
  ·rintro ⟨_, _, h⟩; exact vF x.den_nz y.den_nz h
 rw [decide_eq_decide]; exact e
theorem FE (x : Rat) : (-x).num.natAbs = x.num.natAbs := by rw [Rat.neg_num, Int.natAbs_neg]
theorem B6 {x : Rat} {b : Bd} (h : Bnd .rat b x) : Bnd .rat (.n b.nb) (-x) := by
 have h1 := h.rat
 exact ⟨by rw [FE]; exact h1.1, by rw [Rat.neg_den]; exact h1.2⟩
theorem Mz {x : Rat} (h : ¬ x.num < 0) : decide (0 < (limbs x.num.natAbs).length) = decide ((-x).num < 0) := by
 rw [decide_eq_decide, Rat.neg_num]
 have := @nl0 x.num.natAbs
 omega
theorem MA {x : Rat} (h : x.num < 0) : false = decide ((-x).num < 0) := by
 symm; apply decide_eq_false; rw [Rat.neg_num]; omega
theorem wN (v : Int) : ((v : Rat)).num = v := Rat.num_intCast v
theorem D7 (v : Int) : ((v : Rat)).den = 1 := Rat.den_intCast v
def mkC' (d : Int) : Int := if d = 0 then 3 else 0
theorem XA (d : Int) : (mkC' d).natAbs ≤ 3 := by unfold mkC'; split <;> decide
theorem JA (n d : Int) : sgQ (decide (decide (n < 0) ≠ decide (d < 0))) n.natAbs d.natAbs = (n : Rat) / (d : Rat) := by
 by_cases h : d = 0
 ·subst h; simp [Bb, Rat.div_def]
 ·have := zS (x := (n : Rat)) (y := (d : Rat)) (by rw [wN]; omega)
  rw [wN, wN, D7, D7, Nat.mul_one, Nat.one_mul] at this
  exact this
theorem Ac {n d : Int} {b c : Nat} (hn : n.natAbs ≤ b) (hd : d.natAbs ≤ c) : Bnd .rat (.n (max (Nat.log2 b + 1) (Nat.log2 c + 1))) ((n : Rat) / (d : Rat)) := by
 rw [← JA]
 exact E0 (q9 (Nat.le_max_left _ _) (zm hn)) (q9 (Nat.le_max_right _ _) (zm hd))
def Bd.mx : Bd → Nat
 | .u => 0
 | .n b => b
 | .s _ e => e.mx
 | .p a b => max a.mx b.mx
abbrev V3 : Type := Rat × Rat × Rat
abbrev tV3 : Ty := .pr .rat (.pr .rat .rat)
abbrev bV3 (m : Nat) : Bd := .p (.n m) (.p (.n m) (.n m))
theorem Ae {b : Bd} {x : Rat} {m : Nat} (h : Bnd .rat b x) (hm : b.nb ≤ m) : Bnd .rat (.n m) x := by
 have h := h.rat
 exact ⟨q9 hm h.1, Nat.le_trans h.2 (Nat.pow_le_pow_right (by omega) hm)⟩
theorem Bd.nb_mx (b : Bd) : b.nb ≤ b.mx := by cases b <;> simp [Bd.nb, Bd.mx]
theorem Bd.l_mx (b : Bd) : b.l.mx ≤ b.mx := by cases b <;> simp [Bd.l, Bd.mx] <;> omega
theorem Bd.r_mx (b : Bd) : b.r.mx ≤ b.mx := by cases b <;> simp [Bd.r, Bd.mx] <;> omega
theorem Bnd.ratM {b : Bd} {x : Rat} (h : Bnd .rat b x) : Bnd .rat (.n b.mx) x := Ae h b.nb_mx
theorem Bnd.v3 {b : Bd} {x : V3} (h : Bnd tV3 b x) : Bnd .rat (.n b.mx) x.1 ∧ Bnd .rat (.n b.mx) x.2.1 ∧ Bnd .rat (.n b.mx) x.2.2 := by
 have h1 := h.pr
 have h2 := h1.2.pr
 have := b.l_mx; have := b.r_mx; have := b.r.l_mx; have := b.r.r_mx
 exact ⟨Ae h1.1 (Nat.le_trans (Bd.nb_mx _) (by omega)), Ae h2.1 (Nat.le_trans (Bd.nb_mx _) (by omega)), Ae h2.2 (Nat.le_trans (Bd.nb_mx _) (by omega))⟩
theorem zq {m : Nat} {x : V3} (h : Bnd .rat (.n m) x.1 ∧ Bnd .rat (.n m) x.2.1 ∧ Bnd .rat (.n m) x.2.2) : (WV.c (.agg [.dt tV3 (bV3 m) x])).ok := jh h
def addV (p q : V3) : V3 := (p.1 + q.1, p.2.1 + q.2.1, p.2.2 + q.2.2)
def subV (p q : V3) : V3 := (p.1 - q.1, p.2.1 - q.2.1, p.2.2 - q.2.2)
def mulV (p q : V3) : V3 := (p.1 * q.1, p.2.1 * q.2.1, p.2.2 * q.2.2)
def qh (r : Rat) (p : V3) : V3 := (r * p.1, r * p.2.1, r * p.2.2)
def dotQ (p q : V3) : Rat := p.1 * q.1 + p.2.1 * q.2.1 + p.2.2 * q.2.2
def qb (p q : V3) : V3 := (p.2.1 * q.2.2 - p.2.2 * q.2.1, p.2.2 * q.1 - p.1 * q.2.2, p.1 * q.2.1 - p.2.1 * q.1)
theorem vr {x y : Rat} {a b : Nat} (hx : Bnd .rat (.n a) x) (hy : Bnd .rat (.n b) y) : Bnd .rat (.n (a + b)) (x * y) := AP hx hy
theorem Ef {x y : Rat} {a b : Nat} (hx : Bnd .rat (.n a) x) (hy : Bnd .rat (.n b) y) : Bnd .rat (.n (a + b + 1)) (x + y) := DE hx hy
theorem wG {x y : Rat} {a b : Nat} (hx : Bnd .rat (.n a) x) (hy : Bnd .rat (.n b) y) : Bnd .rat (.n (a + b + 1)) (x - y) := E2 hx hy
theorem C5 {b c : Bd} {p q : V3} (hp : Bnd tV3 b p) (hq : Bnd tV3 c q) : Bnd tV3 (bV3 (b.mx + c.mx + 1)) (addV p q) :=
 ⟨Ef hp.v3.1 hq.v3.1, Ef hp.v3.2.1 hq.v3.2.1, Ef hp.v3.2.2 hq.v3.2.2⟩
theorem CO {b c : Bd} {p q : V3} (hp : Bnd tV3 b p) (hq : Bnd tV3 c q) : Bnd tV3 (bV3 (b.mx + c.mx + 1)) (subV p q) :=
 ⟨wG hp.v3.1 hq.v3.1, wG hp.v3.2.1 hq.v3.2.1, wG hp.v3.2.2 hq.v3.2.2⟩
theorem UV {b c : Bd} {p q : V3} (hp : Bnd tV3 b p) (hq : Bnd tV3 c q) : Bnd tV3 (bV3 (b.mx + c.mx)) (mulV p q) :=
 ⟨vr hp.v3.1 hq.v3.1, vr hp.v3.2.1 hq.v3.2.1, vr hp.v3.2.2 hq.v3.2.2⟩
theorem BQ {b c : Bd} {r : Rat} {q : V3} (hp : Bnd .rat b r) (hq : Bnd tV3 c q) : Bnd tV3 (bV3 (b.mx + c.mx)) (qh r q) :=
 ⟨vr hp.ratM hq.v3.1, vr hp.ratM hq.v3.2.1, vr hp.ratM hq.v3.2.2⟩
theorem j8 {x : Rat} {a b : Nat} (h : Bnd .rat (.n a) x) (hm : a ≤ b) : Bnd .rat (.n b) x := Ae h hm
theorem Hr {b c : Bd} {p q : V3} (hp : Bnd tV3 b p) (hq : Bnd tV3 c q) : Bnd .rat (.n (3 * (b.mx + c.mx) + 2)) (dotQ p q) :=
 j8 (Ef (Ef (vr hp.v3.1 hq.v3.1) (vr hp.v3.2.1 hq.v3.2.1)) (vr hp.v3.2.2 hq.v3.2.2)) (by omega)
theorem DN {b c : Bd} {p q : V3} (hp : Bnd tV3 b p) (hq : Bnd tV3 c q) : Bnd tV3 (bV3 (2 * (b.mx + c.mx) + 1)) (qb p q) :=
 ⟨j8 (wG (vr hp.v3.2.1 hq.v3.2.2) (vr hp.v3.2.2 hq.v3.2.1)) (by omega), j8 (wG (vr hp.v3.2.2 hq.v3.1) (vr hp.v3.1 hq.v3.2.2)) (by omega), j8 (wG (vr hp.v3.1 hq.v3.2.1) (vr hp.v3.2.1 hq.v3.1)) (by omega)⟩
theorem vq {p q : V3} : p = q ↔ p.1 = q.1 ∧ p.2.1 = q.2.1 ∧ p.2.2 = q.2.2 := by
 obtain ⟨a, b, c⟩ := p; obtain ⟨d, e, f⟩ := q; simp
theorem Fd {p q : V3} (h : ¬ p.1 = q.1 ∨ ¬ p.2.1 = q.2.1 ∨ ¬ p.2.2 = q.2.2) : false = decide (p = q) := by
 symm; apply decide_eq_false; intro e; subst e; simp at h
theorem Wm {p q : V3} (h1 : p.1 = q.1) (h2 : p.2.1 = q.2.1) (h3 : p.2.2 = q.2.2) : true = decide (p = q) := (decide_eq_true (vq.2 ⟨h1, h2, h3⟩)).symm
theorem nd {p : Prop} [Decidable p] (h : (!decide p) = true) : ¬ p := by simpa using h
theorem nd' {p : Prop} [Decidable p] (h : ¬ (!decide p) = true) : p := by simpa using h
theorem yd {p : Prop} [Decidable p] (h : decide p = true) : p := of_decide_eq_true h
theorem yd' {p : Prop} [Decidable p] (h : ¬ decide p = true) : ¬ p := fun e => h (decide_eq_true e)
theorem qM {α : Type} {l : List α} {d : α} {i : Nat} (h : i < l.length) : l.getD i d = l[i] := by simp [List.getD_eq_getElem?_getD, h]
theorem jB {α : Type} {l : List α} {d : α} {i : Nat} (h : i < l.length) : l.take (i + 1) = l.take i ++ [l.getD i d] := by
 rw [qM h, List.take_succ_eq_append_getElem h]
theorem Ic {α : Type} {l : List α} {v : α} {i : Nat} (h : i < l.length) : (l.set i v).take (i + 1) = l.take i ++ [v] := by
 rw [List.take_succ_eq_append_getElem (by simpa using h), List.getElem_set_self]
 congr 1
 rw [List.take_set, List.set_eq_of_length_le (by simp; omega)]
structure Cpy {α : Type} (l out : List α) (i : Nat) : Prop where
 hl : out.length = l.length
 hi : i ≤ l.length
 ht : out.take i = l.take i
theorem Cpy.start {α : Type} {l : List α} (d : α) : Cpy l (List.replicate l.length d) 0 := ⟨by simp, by omega, by simp⟩
theorem Cpy.step {α : Type} {l out : List α} {i : Nat} (h : Cpy l out i) (d : α) (hi : i < l.length) : Cpy l (out.set i (l.getD i d)) (i + 1) :=
 ⟨by simp [h.hl], by omega, by rw [Ic (by rw [h.hl]; exact hi), jB hi, h.ht]⟩
theorem Cpy.fin {α : Type} {l out : List α} {i : Nat} (h : Cpy l out i) (hi : ¬ i < l.length) : out = l := by
 have h1 := h.hl
 have h2 := h.hi
 have := h.ht
 rwa [List.take_of_length_le (by omega), List.take_of_length_le (by omega)] at this
abbrev Dice : Type := List Int × Nat
abbrev jI : Ty := .pr (.sl (.int .i64)) (.nat .i64)
theorem mod_a {a m : Int} (hm : 0 < m) (h : Int.tmod a m < 0) : Int.tmod a m + m = a % m := by
 have h1 := Int.tmod_eq_emod (a := a) (b := m)
 have h2 := Int.emod_nonneg a (show m ≠ 0 by omega)
 have h3 := Int.emod_lt_of_pos a hm
 split at h1 <;> omega
theorem XB {a m : Int} (hm : 0 < m) (h : ¬ Int.tmod a m < 0) : Int.tmod a m = a % m := by
 have h1 := Int.tmod_eq_emod (a := a) (b := m)
 have h2 := Int.emod_nonneg a (show m ≠ 0 by omega)
 have h3 := Int.emod_lt_of_pos a hm
 split at h1 <;> omega
theorem Ms {a m : Int} {b : Nat} (hm : 0 < m) (hb : Int.natAbs m ≤ b) : (a % m).natAbs ≤ b := by
 have h2 := Int.emod_nonneg a (show m ≠ 0 by omega)
 have h3 := Int.emod_lt_of_pos a hm
 omega
def qc (s : Dice) (m : Int) : Int := if s.1.length ≤ s.2 then 0 else s.1.getD s.2 0 % m
def q6 (s : Dice) : Dice := if s.1.length ≤ s.2 then s else (s.1, s.2 + 1)
theorem RP {s : Dice} {m : Int} {b : Nat} (hm : 0 < m) (hb : Int.natAbs m ≤ b) : (qc s m).natAbs ≤ b := by
 unfold qc; split
 ·simp
 ·exact Ms hm hb
theorem wO (s : Dice) {m : Int} (hm : 0 < m) : 0 ≤ qc s m ∧ qc s m < m := by
 unfold qc; split
 ·omega
 ·exact ⟨Int.emod_nonneg _ (by omega), Int.emod_lt_of_pos _ hm⟩
theorem FF {s : Dice} {b : Bd} (h : Bnd jI b s) : Bnd jI (.p b.l (.n (max b.r.nb b.l.len))) (q6 s) := by
 have h1 := h.pr
 have h2 := h1.2.nat
 have h3 := h1.1.sl.1
 unfold q6; split
 ·exact ⟨h1.1, Nat.le_trans h2 (Nat.le_max_left _ _)⟩
 ·refine ⟨h1.1, ?_⟩
  show s.2 + 1 ≤ _
  have := Nat.le_max_right b.r.nb b.l.len
  omega
theorem vJ {s : Dice} {b : Bd} (h : Bnd jI (.p b.l (.n (max b.r.nb b.l.len))) s) : Bnd jI (.p b.l (.n (max b.r.nb b.l.len))) (q6 s) := by
 have := FF h
 simpa [Bd.l, Bd.r, Bd.nb, Nat.max_assoc] using this
theorem LN {s : Dice} {b : Bd} (h : Bnd jI b s) : Bnd jI (.p b.l (.n (max b.r.nb b.l.len))) s :=
 ⟨h.pr.1, Nat.le_trans h.pr.2.nat (Nat.le_max_left _ _)⟩
def oneV (s : Dice) : Rat := if qc (q6 s) 4 = 3 then ((qc (q6 (q6 s)) 9 : Int) : Rat) / ((2 : Int) : Rat) else ((qc s 5 : Int) : Rat)
def oneS (s : Dice) : Dice := if qc (q6 s) 4 = 3 then q6 (q6 (q6 s)) else q6 (q6 s)
theorem wP {s : Dice} {b : Bd} (h : Bnd jI (.p b.l (.n (max b.r.nb b.l.len))) s) : Bnd jI (.p b.l (.n (max b.r.nb b.l.len))) (oneS s) := by
 have h1 := vJ (vJ h)
 unfold oneS; split
 ·exact vJ h1
 ·exact h1
theorem HX (s : Dice) : Bnd .rat (.n 5) (oneV s) := by
 have h1 := wO s (m := 5) (by omega)
 have h2 := wO (q6 (q6 s)) (m := 9) (by omega)
 have e1 : Nat.log2 19 + 1 = 5 := by decide
 have e2 : max (Nat.log2 19 + 1) (Nat.log2 5 + 1) = 5 := by decide
 unfold oneV; split
 ·have := Ac (n := qc (q6 (q6 s)) 9) (d := 2) (b := 19) (c := 5) (by omega) (by omega)
  rwa [e2] at this
 ·have := wM (v := qc s 5) (b := 19) (by omega)
  rwa [e1] at this
def ju (s : Dice) : V3 := (oneV s, oneV (oneS s), oneV (oneS (oneS s)))
def qY (s : Dice) : Dice := oneS (oneS (oneS s))
theorem T7 {s : Dice} {b : Bd} (h : Bnd jI b s) : Bnd jI (.p b.l (.n (max b.r.nb b.l.len))) (qY s) := by
 unfold qY; exact wP (b := b) (wP (b := b) (wP (b := b) (LN (b := b) h)))
theorem Dp (s : Dice) : Bnd tV3 (bV3 5) (ju s) := by
 have h1 := HX s; have h2 := HX (oneS s); have h3 := HX (oneS (oneS s))
 unfold ju
 generalize oneV s = a at *; generalize oneV (oneS s) = c at *; generalize oneV (oneS (oneS s)) = d at *
 exact ⟨h1, h2, h3⟩
abbrev Rz : FI := ⟨9, [(.sl (.int .i64))], [(.s 9223372036854775807 (.n 9223372036854775808))], fun _ => [], fun b z => (fun (l : List Int) => .c (.one (.dt .bool .u (decide (l.length ≤ 500))))) z⟩
theorem RA : Rz.OK Tryz.prog := mkF hmix 6 Tryz.func9 rfl rfl (by decide) [] (fun _ => rfl) (fun _ => rfl) (fun _ _ => rfl) (fun (l : List Int) b hx hp => qe trivial rfl) (fun (l : List Int) hx hp => by
 exact ⟨.nil, kcast (by kernel_rfl) ((Eq.refl (decide (l.length ≤ 500))))⟩)
abbrev Ry : Ctr Tryz.prog := FI.c RA
abbrev Ua : FI := ⟨76, [(.int .i64), (.int .i64)], [(.n 9223372036854775808), (.n 1099511627776)], fun z => (fun (a : Int) (m : Int) => [(0 : Int) < m]) z.1 z.2, fun b z => (fun (a : Int) (m : Int) => .c (.one (.dt (.int .i64) (.n (b1 b).nb) (a % m)))) z.1 z.2⟩
theorem Ub : Ua.OK Tryz.prog := mkF hmix 14 Tryz.func76 rfl rfl (by decide) [] (fun _ => rfl) (fun _ => rfl) (fun _ _ => rfl) (fun (a : Int) (m : Int) b hx hp => qe (Ms (hp _ List.mem_cons_self) (Bnds.h2 hx).2.int) rfl) (fun (a : Int) (m : Int) hx hp => by
 have hx0 : Int.natAbs a ≤ 9223372036854775808 := hx.1
 have hx1 : Int.natAbs m ≤ 1099511627776 := hx.2
 have hp0 : (0 : Int) < m := hp _ (List.mem_cons_self)
 exact ⟨.nil, kcast (by kernel_rfl) (I (by omega : m ≠ 0) (And.intro (fun (h1 : Int.tmod a m < 0) => (mod_a hp0 h1 : (Int.tmod a m) + m = a % m)) (fun (h2 : ¬ (Int.tmod a m < 0)) => (XB hp0 h2 : Int.tmod a m = a % m))))⟩)
abbrev LS : Ctr Tryz.prog := FI.c Ub
abbrev QN : FO := ⟨11, [(.sl (.int .i64))], [(.s 1048576 (.n 9223372036854775808))], fun _ => [], fun k b z => .c (.one (.loc k 0)), fun b z => (fun (l : List Int) => .rig [.dt (.pr (.sl (.int .i64)) (.nat .i64)) (.p (b0 b) (.n 0)) ((l, 0))]) z⟩
theorem QO : QN.OK Tryz.prog := mkO hmix 6 5 Tryz.func11 rfl rfl (by decide) [] (fun _ => rfl) (fun _ _ _ => rfl) (fun _ _ => rfl) (fun _ _ _ => ⟨rfl, rfl⟩) (fun (l : List Int) k b hx hp => ⟨⟨trivial, rfl⟩, j4 (show Bnd jI (.p (b0 b) (.n 0)) (l, 0) from ⟨Bnds.h1 hx, Nat.le_refl _⟩)⟩) (fun (l : List Int) hx hp => by
 exact bodyO.p (.nil) (kcast (by kernel_rfl) (And.intro (rfl : (l, 0) = (l, 0)) (rfl : 5 = 5))))
abbrev QM : CtrO Tryz.prog := FO.c QO
abbrev QG : FB := ⟨24, (.pr (.sl (.int .i64)) (.nat .i64)), (.p (.s 1048576 (.n 9223372036854775808)) (.n 1048576)), [(.int .i64)], [(.n 1099511627776)], fun s z => (fun (m : Int) => [(0 : Int) < m]) z, fun tb b s z => (fun (m : Int) => .c (.one (.dt (.int .i64) (.n (b0 b).nb) (qc s m)))) z, fun s z => q6 s, fun tb b => .p tb.l (.n (max tb.r.nb tb.l.len))⟩
theorem QH : QG.OK Tryz.prog := mkB' hmix 35 Tryz.func24 rfl rfl (by decide) [(76, .c LS)] (fun _ => rfl) (fun _ _ => rfl) (fun _ _ _ _ => rfl) (fun (s : List Int × Nat) (m : Int) tb b hs hx hp => ⟨qe (RP (hp _ List.mem_cons_self) (Bnds.h1 hx).int) rfl, FF hs⟩) (fun (s : List Int × Nat) (m : Int) hs hx hp => by
 have hx0 : Int.natAbs m ≤ 1099511627776 := hx
 have hp0 : (0 : Int) < m := hp _ (List.mem_cons_self)
 have hsl : s.1.length ≤ 1048576 := hs.1.1
 exact ⟨.cond (.nil) (.h 4 9 (.ix s.2) (.nil)), kcast (by kernel_rfl) (And.intro (fun (h1 : s.1.length ≤ s.2) => And.intro ((if_pos h1).symm : s = q6 s) (((if_pos h1).symm : 0 = qc s m))) (fun (h2 : ¬ (s.1.length ≤ s.2)) => I (by omega : ((s.2 + 1 : Nat) : Int) - 1 = ((s.2 : Nat) : Int)) (I (by omega : s.2 < s.1.length) (I (hp0 : (0 : Int) < m) (And.intro ((if_neg h2).symm : (s.1, s.2 + 1) = q6 s) (((if_neg h2).symm : (s.1.getD s.2 0) % m = qc s m)))))))⟩)
abbrev Fv : CtrB Tryz.prog := FB.c QH
abbrev Qx : FB := ⟨20, (.pr (.sl (.int .i64)) (.nat .i64)), (.p (.s 1048576 (.n 9223372036854775808)) (.n 1048576)), [(.int .i64)], [(.n 1099511627776)], fun s z => (fun (m : Int) => [(0 : Int) < m]) z, fun tb b s z => (fun (m : Int) => .c (.one (.dt .bool .u (decide (qc s m = m - 1))))) z, fun s z => q6 s, fun tb b => .p tb.l (.n (max tb.r.nb tb.l.len))⟩
theorem Qy : Qx.OK Tryz.prog := mkB' hmix 11 Tryz.func20 rfl rfl (by decide) [(24, .b Fv)] (fun _ => rfl) (fun _ _ => rfl) (fun _ _ _ _ => rfl) (fun (s : List Int × Nat) (m : Int) tb b hs hx hp => ⟨qe trivial rfl, FF hs⟩) (fun (s : List Int × Nat) (m : Int) hs hx hp => by
 have hp0 : (0 : Int) < m := hp _ (List.mem_cons_self)
 exact ⟨.nil, kcast (by kernel_rfl) (I (hp0 : (0 : Int) < m) (And.intro (Eq.refl (q6 s)) ((Eq.refl (decide (qc s m = m - 1))))))⟩)
abbrev Qw : CtrB Tryz.prog := FB.c Qy
abbrev Wj : FI := ⟨220, [(.sl (.nat .u32))], [(.s 1099511627776 (.n 4294967295))], fun z => (fun (ls : List Nat) => [∀ u ∈ ls, u < 4294967296]) z, fun b z => (fun (ls : List Nat) => .c (.one (.dt .mag (.n (32 * (b0 b).len)) (valL ls)))) z⟩
theorem Nm : Wj.OK Tryz.prog := mkF hmix 21 Tryz.func220 rfl rfl (by decide) [] (fun _ => rfl) (fun _ => rfl) (fun _ _ => rfl) (fun (ls : List Nat) b hx hp => qe (BI (hp _ (List.mem_cons_self)) (Bnds.h1 hx).sl.1) rfl) (fun (ls : List Nat) hx hp => by
 have hl0 : ls.length ≤ 1099511627776 := hx.1
 have hp0 : ∀ u ∈ ls, u < 4294967296 := hp _ (List.mem_cons_self)
 exact ⟨.loop [.s 3 (.nat .i64) (.n 1099511627776)] (fun (k : Nat) => k ≤ ls.length ∧ valL (ls.take k) = valL ls) (fun (k : Nat) => k) (fun (k : Nat) => .cond (.h 2 5 (.i .sub) (.cond (.h 3 1 (.i .sub) (.nil)) (.h 4 2 (.mag (valL ls) 70368744177664) (.nil)))) (.h 4 2 (.mag (valL ls) 70368744177664) (.nil))), kcast (by kernel_rfl) (I (⟨Nat.le_refl _, by rw [List.take_length]⟩ : ls.length ≤ ls.length ∧ valL (ls.take ls.length) = valL ls) (fun (k : Nat) (hb1 : HB [.s 3 (.nat .i64) (.n 1099511627776)] k) (hC : k ≤ ls.length ∧ valL (ls.take k) = valL ls) => have hv6 := (show k ≤ 1099511627776 from hb1); have hk := hC.1; And.intro (fun (h2 : 0 < k) => I (by omega : 1 ≤ k) (I (by omega : k - 1 < ls.length) (And.intro (fun (h3 : ls.getD (k - 1) 0 = 0) => I (by omega : 1 ≤ k) (And.intro (⟨by omega, CQ hC.1 (by omega) hC.2 (by omega)⟩ : k - 1 ≤ ls.length ∧ valL (ls.take (k - 1)) = valL ls) (by omega : k - 1 < k))) (fun (h4 : ¬ (ls.getD (k - 1) 0 = 0)) => I (by omega : k ≤ ls.length) (I (ze hp0 hC.1 hC.2 (by omega) : ls.take k = limbs (valL ls)) (I (q9 (by decide) (BI hp0 hl0) : lt2 (valL ls) 70368744177664) ((Eq.refl (valL ls))))))))) (fun (h5 : ¬ (0 < k)) => I (by omega : k ≤ ls.length) (I (ze hp0 hC.1 hC.2 (by omega) : ls.take k = limbs (valL ls)) (I (q9 (by decide) (BI hp0 hl0) : lt2 (valL ls) 70368744177664) ((Eq.refl (valL ls))))))))⟩)
abbrev Af : Ctr Tryz.prog := FI.c Nm
abbrev Nl (b : List Bd) (ls : List Nat) : WV := .c (.one (.dt .mag (.n (32 * (b0 b).len)) (valL ls)))
theorem Pn (ls : List Nat) (hx : Bnds [(.sl (.nat .u32))] [(.s 1099511627776 (.n 4294967295))] ls) (hp : ∀ c0 ∈ ([∀ u ∈ ls, u < 4294967296] : List Prop), c0) : Sig Tryz.prog 220 (argsE [(.sl (.nat .u32))] ls) (Nl [(.s 1099511627776 (.n 4294967295))] ls).exp := Nm.sig ls hx hp
theorem Pm (b : List Bd) (x : Nat) (hx : Bnds [.mag] b x) (hp : ∀ p ∈ ([] : List Prop), p) : (WV.c (.one (.dt .mag (b0 b) x))).ok := qe (Bnds.h1 hx) rfl
theorem Nk (x : Nat) (hx : Bnds [.mag] [.n 1099511627776] x) (hp : ∀ p ∈ ([] : List Prop), p) : Sig Tryz.prog 220 (argsE [.mag] x) (WV.c (.one (.dt .mag (.n 1099511627776) x))).exp := by
 have h := Pn (limbs x) ⟨Nat.le_trans (qf (Nat.le_of_lt hx)) (by decide), (Bnd.limbs hx).2⟩ (by intro p hp; simp only [List.mem_cons, List.not_mem_nil, or_false] at hp; subst hp; exact qO x)
 unfold Nl at h; rw [qn, ← C6] at h; exact h
def wS : Ctr Tryz.prog := ⟨220, [.mag], [.n 1099511627776], fun z => [], fun b z => .c (.one (.dt .mag (b0 b) z)), fun z hx hp => Nk z hx hp, fun _ _ => rfl, fun b z hx hp => Pm b z hx hp⟩
abbrev X6 : FI := ⟨212, [.mag, .mag], [(.n 1099511627776), (.n 1099511627776)], fun _ => [], fun b z => (fun (x : Nat) (y : Nat) => .c (.one (.dt .mag (.n (max (b0 b).nb (b1 b).nb + 1)) (x + y)))) z.1 z.2⟩
theorem X7 : X6.OK Tryz.prog := mkF hmix 58 Tryz.func212 rfl rfl (by decide) [] (fun _ => rfl) (fun _ => rfl) (fun _ _ => rfl) (fun (x : Nat) (y : Nat) b hx hp => qe (Da (Bnds.h2 hx).1.mag (Bnds.h2 hx).2.mag) rfl) (fun (x : Nat) (y : Nat) hx hp => by
 have hx0 : lt2 x 1099511627776 := hx.1
 have hl0 : (limbs x).length ≤ 34359738369 := qf (Nat.le_of_lt hx0)
 have hx1 : lt2 y 1099511627776 := hx.2
 have hl1 : (limbs y).length ≤ 34359738369 := qf (Nat.le_of_lt hx1)
 exact ⟨.cond (.h 3 3 (.mk (.arr (.nat .u32) (.n 4294967295))) (.loop [.s 22 (.nat .i64) (.n 34359738369), .s 6 (.nat .u64) (.n 1), .a 19 (.nat .u32) (.n 4294967295)] (fun ((i, c, out) : Nat × Nat × List Nat) => AddI y x i c out) (fun ((i, c, out) : Nat × Nat × List Nat) => (limbs y).length - i) (fun ((i, c, out) : Nat × Nat × List Nat) => .cond (.nil) (.pre 15 (.frz 19 true [5]) (.h 15 1 (.c Af) (.nil)))))) (.h 3 3 (.mk (.arr (.nat .u32) (.n 4294967295))) (.loop [.s 22 (.nat .i64) (.n 34359738369), .s 6 (.nat .u64) (.n 1), .a 19 (.nat .u32) (.n 4294967295)] (fun ((i, c, out) : Nat × Nat × List Nat) => AddI x y i c out) (fun ((i, c, out) : Nat × Nat × List Nat) => (limbs x).length - i) (fun ((i, c, out) : Nat × Nat × List Nat) => .cond (.nil) (.pre 15 (.frz 19 true [5]) (.h 15 1 (.c Af) (.nil)))))), kcast (by kernel_rfl) (And.intro (fun (h1 : (limbs x).length < (limbs y).length) => I (by omega : ((limbs y).length) + 1 = ((limbs y).length) + 1) (I (AddI.start y x : AddI y x 0 0 (List.replicate (((limbs y).length) + 1) (0 : Nat))) (fun (i : Nat) (c : Nat) (out : List Nat) (hb2 : HB [.s 22 (.nat .i64) (.n 34359738369), .s 6 (.nat .u64) (.n 1), .a 19 (.nat .u32) (.n 4294967295)] (i, c, out)) (hI : AddI y x i c out) => have hv7 := (show i ≤ 34359738369 from hb2.1); have hv8 := (show c ≤ 1 from hb2.2.1); have hv9 := (show ∀ u ∈ out, u ≤ 4294967295 from hb2.2.2); have hIl := hI.hl; have hIi := hI.hi; have hIc := hI.hc; And.intro (fun (h3 : i < (limbs y).length) => I (by omega : i < (limbs y).length) (And.intro (fun (h4 : i < (limbs x).length) => I (by omega : i < (limbs x).length) (I (by omega : i < ((limbs y).length) + 1) (I (by omega : i < out.length) (I (show (i + 1) ≤ 34359738369 by omega : Bnd (.nat .i64) (.n 34359738369) (i + 1)) (And.intro (hI.step (by omega) (by first | rfl | rw [qo (l := limbs x) (by omega), Nat.add_zero]) : AddI y x (i + 1) (((c + ((limbs y).getD i 0)) + ((limbs x).getD i 0)) / 2 ^ 32) (out.set i (((c + ((limbs y).getD i 0)) + ((limbs x).getD i 0)) % 4294967296))) (by omega : (limbs y).length - (i + 1) < (limbs y).length - i)))))) (fun (h5 : ¬ (i < (limbs x).length)) => I (by omega : i < ((limbs y).length) + 1) (I (by omega : i < out.length) (I (show (i + 1) ≤ 34359738369 by omega : Bnd (.nat .i64) (.n 34359738369) (i + 1)) (And.intro (hI.step (by omega) (by first | rfl | rw [qo (l := limbs x) (by omega), Nat.add_zero]) : AddI y x (i + 1) ((c + ((limbs y).getD i 0)) / 2 ^ 32) (out.set i ((c + ((limbs y).getD i 0)) % 4294967296))) (by omega : (limbs y).length - (i + 1) < (limbs y).length - i))))))) (fun (h6 : ¬ (i < (limbs y).length)) => have hF := hI.fin' (by omega) (by omega); I (by omega : (limbs y).length < ((limbs y).length) + 1) (I (by omega : (limbs y).length < out.length) (I (Et (by omega) : ((limbs y).length) + 1 = (out.set ((limbs y).length) c).length) (I (hF.2 : ∀ u ∈ out.set ((limbs y).length) c, u < 4294967296) ((by rw [hF.1] <;> omega : valL (out.set ((limbs y).length) c) = x + y))))))))) (fun (h10 : ¬ ((limbs x).length < (limbs y).length)) => I (by omega : ((limbs x).length) + 1 = ((limbs x).length) + 1) (I (AddI.start x y : AddI x y 0 0 (List.replicate (((limbs x).length) + 1) (0 : Nat))) (fun (i : Nat) (c : Nat) (out : List Nat) (hb11 : HB [.s 22 (.nat .i64) (.n 34359738369), .s 6 (.nat .u64) (.n 1), .a 19 (.nat .u32) (.n 4294967295)] (i, c, out)) (hI : AddI x y i c out) => have hv16 := (show i ≤ 34359738369 from hb11.1); have hv17 := (show c ≤ 1 from hb11.2.1); have hv18 := (show ∀ u ∈ out, u ≤ 4294967295 from hb11.2.2); have hIl := hI.hl; have hIi := hI.hi; have hIc := hI.hc; And.intro (fun (h12 : i < (limbs x).length) => I (by omega : i < (limbs x).length) (And.intro (fun (h13 : i < (limbs y).length) => I (by omega : i < (limbs y).length) (I (by omega : i < ((limbs x).length) + 1) (I (by omega : i < out.length) (I (show (i + 1) ≤ 34359738369 by omega : Bnd (.nat .i64) (.n 34359738369) (i + 1)) (And.intro (hI.step (by omega) (by first | rfl | rw [qo (l := limbs y) (by omega), Nat.add_zero]) : AddI x y (i + 1) (((c + ((limbs x).getD i 0)) + ((limbs y).getD i 0)) / 2 ^ 32) (out.set i (((c + ((limbs x).getD i 0)) + ((limbs y).getD i 0)) % 4294967296))) (by omega : (limbs x).length - (i + 1) < (limbs x).length - i)))))) (fun (h14 : ¬ (i < (limbs y).length)) => I (by omega : i < ((limbs x).length) + 1) (I (by omega : i < out.length) (I (show (i + 1) ≤ 34359738369 by omega : Bnd (.nat .i64) (.n 34359738369) (i + 1)) (And.intro (hI.step (by omega) (by first | rfl | rw [qo (l := limbs y) (by omega), Nat.add_zero]) : AddI x y (i + 1) ((c + ((limbs x).getD i 0)) / 2 ^ 32) (out.set i ((c + ((limbs x).getD i 0)) % 4294967296))) (by omega : (limbs x).length - (i + 1) < (limbs x).length - i))))))) (fun (h15 : ¬ (i < (limbs x).length)) => have hF := hI.fin' (by omega) (by omega); I (by omega : (limbs x).length < ((limbs x).length) + 1) (I (by omega : (limbs x).length < out.length) (I (Et (by omega) : ((limbs x).length) + 1 = (out.set ((limbs x).length) c).length) (I (hF.2 : ∀ u ∈ out.set ((limbs x).length) c, u < 4294967296) ((by rw [hF.1] <;> omega : valL (out.set ((limbs x).length) c) = x + y))))))))))⟩)
abbrev add_c : Ctr Tryz.prog := FI.c X7
abbrev XC : FI := ⟨144, [.mag, .mag], [(.n 1099511627776), (.n 1099511627776)], fun _ => [], fun b z => (fun (x : Nat) (y : Nat) => .c (.one (.dt .mag (.n ((b0 b).nb + (b1 b).nb)) (x * y)))) z.1 z.2⟩
theorem XD : XC.OK Tryz.prog := mkF hmix 69 Tryz.func144 rfl rfl (by decide) [] (fun _ => rfl) (fun _ => rfl) (fun _ _ => rfl) (fun (x : Nat) (y : Nat) b hx hp => qe (Db (Bnds.h2 hx).1.mag (Bnds.h2 hx).2.mag) rfl) (fun (x : Nat) (y : Nat) hx hp => by
 have hx0 : lt2 x 1099511627776 := hx.1
 have hl0 : (limbs x).length ≤ 34359738369 := qf (Nat.le_of_lt hx0)
 have hx1 : lt2 y 1099511627776 := hx.2
 have hl1 : (limbs y).length ≤ 34359738369 := qf (Nat.le_of_lt hx1)
 exact ⟨.h 1 5 (.mk (.arr (.nat .u32) (.n 4294967295))) (.loop [.s 19 (.nat .i64) (.n 34359738369), .a 16 (.nat .u32) (.n 4294967295)] (fun ((i, out) : Nat × List Nat) => MulI x y i out) (fun ((i, out) : Nat × List Nat) => (limbs x).length - i) (fun ((i, out) : Nat × List Nat) => .cond (.cond (.nil) (.loop [.s 28 (.nat .i64) (.n 34359738369), .s 8 (.nat .u64) (.n 4294967295), .a 16 (.nat .u32) (.n 4294967295)] (fun ((j, c, out2) : Nat × Nat × List Nat) => MulJ x y i ((limbs x).getD i 0) j c out out2) (fun ((j, c, out2) : Nat × Nat × List Nat) => (limbs y).length - j) (fun ((j, c, out2) : Nat × Nat × List Nat) => .nil))) (.pre 16 (.frz 16 true [5]) (.h 16 1 (.c Af) (.nil))))), kcast (by kernel_rfl) (I (by omega : ((limbs x).length) + ((limbs y).length) = ((limbs x).length) + ((limbs y).length)) (I (MulI.start x y : MulI x y 0 (List.replicate (((limbs x).length) + ((limbs y).length)) (0 : Nat))) (fun (i : Nat) (out : List Nat) (hb1 : HB [.s 19 (.nat .i64) (.n 34359738369), .a 16 (.nat .u32) (.n 4294967295)] (i, out)) (hM : MulI x y i out) => have hv12 := (show i ≤ 34359738369 from hb1.1); have hv13 := (show ∀ u ∈ out, u ≤ 4294967295 from hb1.2); have hMl := hM.hl; have hMi := hM.hi; And.intro (fun (h2 : i < (limbs x).length) => I (by omega : i < (limbs x).length) (And.intro (fun (h3 : (limbs x).getD i 0 = 0) => I (show (i + 1) ≤ 34359738369 by omega : Bnd (.nat .i64) (.n 34359738369) (i + 1)) (And.intro (hM.skip (by omega) (by omega) : MulI x y (i + 1) out) (by omega : (limbs x).length - (i + 1) < (limbs x).length - i))) (fun (h4 : ¬ ((limbs x).getD i 0 = 0)) => I (MulJ.start hM : MulJ x y i ((limbs x).getD i 0) 0 0 out out) (fun (j : Nat) (c : Nat) (out2 : List Nat) (hb5 : HB [.s 28 (.nat .i64) (.n 34359738369), .s 8 (.nat .u64) (.n 4294967295), .a 16 (.nat .u32) (.n 4294967295)] (j, c, out2)) (hJ : MulJ x y i ((limbs x).getD i 0) j c out out2) => have hv8 := (show j ≤ 34359738369 from hb5.1); have hv9 := (show c ≤ 4294967295 from hb5.2.1); have hv10 := (show ∀ u ∈ out2, u ≤ 4294967295 from hb5.2.2); have hJl := hJ.hl; have hJj := hJ.hj; have hJc := hJ.hc; And.intro (fun (h6 : j < (limbs y).length) => I (by omega : j < (limbs y).length) (I (by omega : i + j < ((limbs x).length) + ((limbs y).length)) (I (by omega : i + j < out2.length) (I (by omega : i + j < ((limbs x).length) + ((limbs y).length)) (I (by omega : i + j < out2.length) (I (show (j + 1) ≤ 34359738369 by omega : Bnd (.nat .i64) (.n 34359738369) (j + 1)) (And.intro ((hJ.step (by omega) (by omega) (q7 x i) rfl).1 : MulJ x y i ((limbs x).getD i 0) (j + 1) ((c + ((((limbs x).getD i 0) * ((limbs y).getD j 0)) + (out2.getD (i + j) 0))) / 2 ^ 32) out (out2.set (i + j) ((c + ((((limbs x).getD i 0) * ((limbs y).getD j 0)) + (out2.getD (i + j) 0))) % 4294967296))) (by omega : (limbs y).length - (j + 1) < (limbs y).length - j)))))))) (fun (h7 : ¬ (j < (limbs y).length)) => I (by omega : i + ((limbs y).length) < ((limbs x).length) + ((limbs y).length)) (I (by omega : i + ((limbs y).length) < out2.length) (I (show (i + 1) ≤ 34359738369 by omega : Bnd (.nat .i64) (.n 34359738369) (i + 1)) (And.intro (MulJ.fin' hM (by omega) hJ (by omega) : MulI x y (i + 1) (out2.set (i + ((limbs y).length)) c)) (by omega : (limbs x).length - (i + 1) < (limbs x).length - i))))))))) (fun (h11 : ¬ (i < (limbs x).length)) => I (by omega : ((limbs x).length) + ((limbs y).length) = out.length) (have hF := hM.fin' (by omega); I (hF.2 : ∀ u ∈ out, u < 4294967296) ((hF.1 : valL out = x * y)))))))⟩)
abbrev mul_c : Ctr Tryz.prog := FI.c XD
abbrev X9 : FI := ⟨208, [.mag, .mag], [(.n 1099511627776), (.n 1099511627776)], fun _ => [], fun b z => (fun (x : Nat) (y : Nat) => .c (.one (.dt (.int .i64) (.n 1) (cmpN x y)))) z.1 z.2⟩
theorem Xa : X9.OK Tryz.prog := mkF hmix 45 Tryz.func208 rfl rfl (by decide) [(220, .c wS)] (fun _ => rfl) (fun _ => rfl) (fun _ _ => rfl) (fun (x : Nat) (y : Nat) b hx hp => qe (Jd x y) rfl) (fun (x : Nat) (y : Nat) hx hp => by
 have hx0 : lt2 x 1099511627776 := hx.1
 have hl0 : (limbs x).length ≤ 34359738369 := qf (Nat.le_of_lt hx0)
 have hx1 : lt2 y 1099511627776 := hx.2
 have hl1 : (limbs y).length ≤ 34359738369 := qf (Nat.le_of_lt hx1)
 exact ⟨.cond (.nil) (.loop [.s 5 (.int .i64) (.n 68719476736)] (fun (z : Int) => CmpI x y z) (fun (z : Int) => (z + 1).toNat) (fun (z : Int) => .cond (.h 9 2 (.ix z.toNat) (.h 9 6 (.ix z.toNat) (.cond (.h 10 2 (.ix z.toNat) (.h 10 6 (.ix z.toNat) (.nil))) (.nil)))) (.nil))), kcast (by kernel_rfl) (And.intro (fun (h1 : (limbs x).length ≠ (limbs y).length) => And.intro (fun (h2 : (limbs x).length < (limbs y).length) => (by first | exact (Bq (by omega)).symm | exact ((hC.at (by omega) (by omega)).2.1 (by omega)).symm : (-1) = cmpN x y)) (fun (h3 : ¬ ((limbs x).length < (limbs y).length)) => (by first | exact (Br (by omega)).symm | exact ((hC.at (by omega) (by omega)).2.2 (by omega)).symm : 1 = cmpN x y))) (fun (h4 : ¬ ((limbs x).length ≠ (limbs y).length)) => I (CmpI.start (by omega) : CmpI x y ((((limbs x).length : Nat) : Int) - 1)) (fun (z : Int) (hb5 : HB [.s 5 (.int .i64) (.n 68719476736)] z) (hC : CmpI x y z) => have hv12 := (show Int.natAbs z ≤ 68719476736 from hb5); have hC0 := hC.h0; have hC1 := hC.h1; And.intro (fun (h6 : 0 ≤ z) => I (by omega : z = ((z.toNat : Nat) : Int)) (I (by omega : z.toNat < (limbs x).length) (I (by omega : z = ((z.toNat : Nat) : Int)) (I (by omega : z.toNat < (limbs y).length) (And.intro (fun (h7 : (limbs x).getD z.toNat 0 ≠ (limbs y).getD z.toNat 0) => I (by omega : z = ((z.toNat : Nat) : Int)) (I (by omega : z.toNat < (limbs x).length) (I (by omega : z = ((z.toNat : Nat) : Int)) (I (by omega : z.toNat < (limbs y).length) (And.intro (fun (h8 : (limbs x).getD z.toNat 0 < (limbs y).getD z.toNat 0) => (by first | exact (Bq (by omega)).symm | exact ((hC.at (by omega) (by omega)).2.1 (by omega)).symm : (-1) = cmpN x y)) (fun (h9 : ¬ ((limbs x).getD z.toNat 0 < (limbs y).getD z.toNat 0)) => (by first | exact (Br (by omega)).symm | exact ((hC.at (by omega) (by omega)).2.2 (by omega)).symm : 1 = cmpN x y))))))) (fun (h10 : ¬ ((limbs x).getD z.toNat 0 ≠ (limbs y).getD z.toNat 0)) => I (show Int.natAbs (z - 1) ≤ 68719476736 by omega : Bnd (.int .i64) (.n 68719476736) (z - 1)) (And.intro ((hC.at (by omega) (by omega)).1 (by omega) : CmpI x y (z - 1)) (by omega : ((z - 1) + 1).toNat < (z + 1).toNat)))))))) (fun (h11 : ¬ (0 ≤ z)) => ((hC.fin (by omega)).symm : 0 = cmpN x y)))))⟩)
abbrev Kk : Ctr Tryz.prog := FI.c Xa
abbrev XP : FI := ⟨213, [.mag, .mag], [(.n 1099511627776), (.n 1099511627776)], fun _ => [], fun b z => (fun (x : Nat) (y : Nat) => .tup [.one (.dt .mag (b0 b) (x - y)), .one (.dt (.int .i64) (.n 7) (subC x y))]) z.1 z.2⟩
theorem XQ : XP.OK Tryz.prog := mkF hmix 54 Tryz.func213 rfl rfl (by decide) [(208, .c Kk), (220, .c wS)] (fun _ => rfl) (fun _ => rfl) (fun _ _ => rfl) (fun (x : Nat) (y : Nat) b hx hp => qF (qe (Bnd.magLe (Bnds.h2 hx).1 (Nat.sub_le _ _)) rfl) (qF (qe (Ng x y) rfl) jz)) (fun (x : Nat) (y : Nat) hx hp => by
 have hx0 : lt2 x 1099511627776 := hx.1
 have hl0 : (limbs x).length ≤ 34359738369 := qf (Nat.le_of_lt hx0)
 have hx1 : lt2 y 1099511627776 := hx.2
 have hl1 : (limbs y).length ≤ 34359738369 := qf (Nat.le_of_lt hx1)
 exact ⟨.cond (.nil) (.h 4 2 (.mk (.arr (.nat .u32) (.n 4294967295))) (.loop [.s 23 (.nat .i64) (.n 34359738369), .s 7 (.nat .u64) (.n 1), .a 20 (.nat .u32) (.n 4294967295)] (fun ((i, c, out) : Nat × Nat × List Nat) => SubI x y i c out) (fun ((i, c, out) : Nat × Nat × List Nat) => (limbs x).length - i) (fun ((i, c, out) : Nat × Nat × List Nat) => .cond (.cond (.h 12 3 (.i (.n (dif ((limbs x).getD i 0) (c + ((limbs y).getD i 0))) 18446744073709551615)) (.nil)) (.h 12 3 (.i (.n (dif ((limbs x).getD i 0) c) 18446744073709551615)) (.nil))) (.pre 16 (.frz 20 true [6]) (.h 16 1 (.c Af) (.nil)))))), kcast (by kernel_rfl) (And.intro (fun (h1 : cmpN x y < 0) => And.intro (by have := jg.1 (show cmpN x y < 0 by assumption); omega : 0 = x - y) ((if_pos (jg.1 (by assumption))).symm : 7 = subC x y)) (fun (h2 : ¬ (cmpN x y < 0)) => have hp0 := (show y ≤ x from Nat.le_of_not_lt (mt jg.2 (by assumption))); have hlen := jQ hp0; I (by omega : (limbs x).length = (limbs x).length) (I (SubI.start x y : SubI x y 0 0 (List.replicate ((limbs x).length) (0 : Nat))) (fun (i : Nat) (c : Nat) (out : List Nat) (hb3 : HB [.s 23 (.nat .i64) (.n 34359738369), .s 7 (.nat .u64) (.n 1), .a 20 (.nat .u32) (.n 4294967295)] (i, c, out)) (hI : SubI x y i c out) => have hv8 := (show i ≤ 34359738369 from hb3.1); have hv9 := (show c ≤ 1 from hb3.2.1); have hv10 := (show ∀ u ∈ out, u ≤ 4294967295 from hb3.2.2); have hIl := hI.hl; have hIi := hI.hi; have hIc := hI.hc; have hg1 := q7 x i; have hg2 := q7 y i; And.intro (fun (h4 : i < (limbs x).length) => I (by omega : i < (limbs x).length) (And.intro (fun (h5 : i < (limbs y).length) => I (by omega : i < (limbs y).length) (I (vf (by first | omega | exact Nat.lt_succ_of_le (jR _ _)) (by omega) : qx .sub .u64 (((limbs x).getD i 0 : Nat) : Int) ((c + ((limbs y).getD i 0) : Nat) : Int) ((dif ((limbs x).getD i 0) (c + ((limbs y).getD i 0)) : Nat) : Int)) (I (jR _ _ : dif ((limbs x).getD i 0) (c + ((limbs y).getD i 0)) ≤ 18446744073709551615) (I (by omega : i < (limbs x).length) (I (by omega : i < out.length) (I (show (i + 1) ≤ 34359738369 by omega : Bnd (.nat .i64) (.n 34359738369) (i + 1)) (And.intro (hI.step (by omega) (by first | rfl | rw [qo (l := limbs y) (by omega), Nat.add_zero]) : SubI x y (i + 1) ((dif ((limbs x).getD i 0) (c + ((limbs y).getD i 0))) / 2 ^ 63) (out.set i ((dif ((limbs x).getD i 0) (c + ((limbs y).getD i 0))) % 4294967296))) (by omega : (limbs x).length - (i + 1) < (limbs x).length - i)))))))) (fun (h6 : ¬ (i < (limbs y).length)) => I (vf (by first | omega | exact Nat.lt_succ_of_le (jR _ _)) (by omega) : qx .sub .u64 (((limbs x).getD i 0 : Nat) : Int) (c : Int) ((dif ((limbs x).getD i 0) c : Nat) : Int)) (I (jR _ _ : dif ((limbs x).getD i 0) c ≤ 18446744073709551615) (I (by omega : i < (limbs x).length) (I (by omega : i < out.length) (I (show (i + 1) ≤ 34359738369 by omega : Bnd (.nat .i64) (.n 34359738369) (i + 1)) (And.intro (hI.step (by omega) (by first | rfl | rw [qo (l := limbs y) (by omega), Nat.add_zero]) : SubI x y (i + 1) ((dif ((limbs x).getD i 0) c) / 2 ^ 63) (out.set i ((dif ((limbs x).getD i 0) c) % 4294967296))) (by omega : (limbs x).length - (i + 1) < (limbs x).length - i))))))))) (fun (h7 : ¬ (i < (limbs x).length)) => I (by omega : (limbs x).length = out.length) (have hF := hI.fin' (by omega) hp0; I (hF.2 : ∀ u ∈ out, u < 4294967296) (And.intro (hF.1 : valL out = x - y) ((if_neg (by omega)).symm : 0 = subC x y))))))))⟩)
abbrev XO : Ctr Tryz.prog := FI.c XQ
abbrev T2 : FI := ⟨263, [.mag, (.nat .u32)], [(.n 1099511627776), (.n 4294967295)], fun z => (fun (x : Nat) (u : Nat) => [0 < u]) z.1 z.2, fun b z => (fun (x : Nat) (u : Nat) => .tup [.one (.dt .mag (b0 b) (x / u)), .one (.dt (.nat .u32) (b1 b) (x % u))]) z.1 z.2⟩
theorem T4 : T2.OK Tryz.prog := mkF hmix 43 Tryz.func263 rfl rfl (by decide) [] (fun _ => rfl) (fun _ => rfl) (fun _ _ => rfl) (fun (x : Nat) (u : Nat) b hx hp => qF (qe ((Bnds.h2 hx).1.magLe (Nat.div_le_self _ _)) rfl) (qF (qe ((Bnds.h2 hx).2.natLe (Nat.le_of_lt (Nat.mod_lt _ (hp _ (List.mem_cons_self))))) rfl) jz)) (fun (x : Nat) (u : Nat) hx hp => by
 have hx0 : lt2 x 1099511627776 := hx.1
 have hl0 : (limbs x).length ≤ 34359738369 := qf (Nat.le_of_lt hx0)
 have hx1 : u ≤ 4294967295 := hx.2
 have hp0 : 0 < u := hp _ (List.mem_cons_self)
 exact ⟨.h 1 2 (.mk (.arr (.nat .u32) (.n 4294967295))) (.loop [.s 8 (.int .i64) (.n 34359738370), .s 7 (.nat .u64) (.n 4294967295), .a 11 (.nat .u32) (.n 4294967295)] (fun ((z, r, out) : Int × Nat × List Nat) => SmallZ x u z r out) (fun ((z, r, out) : Int × Nat × List Nat) => (z + 1).toNat) (fun ((z, r, out) : Int × Nat × List Nat) => .cond (.h 6 4 (.ix z.toNat) (.h 6 7 (.i (.n ((r * 2 ^ 32) + ((limbs x).getD z.toNat 0)) 18446744073709551615)) (.h 7 7 (.ix z.toNat) (.nil)))) (.pre 9 (.frz 11 true [6, 7]) (.h 9 1 (.c Af) (.nil))))), kcast (by kernel_rfl) (I (by omega : (limbs x).length = (limbs x).length) (I (SmallZ.start hp0 : SmallZ x u ((((limbs x).length : Nat) : Int) - 1) 0 (List.replicate ((limbs x).length) (0 : Nat))) (fun (z : Int) (r : Nat) (out : List Nat) (hb1 : HB [.s 8 (.int .i64) (.n 34359738370), .s 7 (.nat .u64) (.n 4294967295), .a 11 (.nat .u32) (.n 4294967295)] (z, r, out)) (hI : SmallZ x u z r out) => have hv4 := (show Int.natAbs z ≤ 34359738370 from hb1.1); have hv5 := (show r ≤ 4294967295 from hb1.2.1); have hv6 := (show ∀ u ∈ out, u ≤ 4294967295 from hb1.2.2); have hB := hI.b; And.intro (fun (h2 : 0 ≤ z) => I (by omega : z = ((z.toNat : Nat) : Int)) (I (by omega : z.toNat < (limbs x).length) (I (Aj _ 32 rfl (q7 _ _) (by have := q7 x z.toNat; omega) : qx .or .u64 ((r * 2 ^ 32 : Nat) : Int) (((limbs x).getD z.toNat 0 : Nat) : Int) (((r * 2 ^ 32) + ((limbs x).getD z.toNat 0) : Nat) : Int)) (I (by have := q7 x z.toNat; omega : (r * 2 ^ 32) + ((limbs x).getD z.toNat 0) ≤ 18446744073709551615) (I (by omega : 0 < u) (I (by omega : z = ((z.toNat : Nat) : Int)) (I (by omega : z.toNat < (limbs x).length) (I (by omega : z.toNat < out.length) (I (by omega : 0 < u) (I (show Int.natAbs (z - 1) ≤ 34359738370 by omega : Bnd (.int .i64) (.n 34359738370) (z - 1)) (And.intro (hI.step (by omega) rfl : SmallZ x u (z - 1) (((r * 2 ^ 32) + ((limbs x).getD z.toNat 0)) % u) (out.set z.toNat ((((r * 2 ^ 32) + ((limbs x).getD z.toNat 0)) / u) % 4294967296))) (by omega : ((z - 1) + 1).toNat < (z + 1).toNat)))))))))))) (fun (h3 : ¬ (0 ≤ z)) => I (by omega : (limbs x).length = out.length) (have hF := hI.fin (by omega); I (hF.2.2 : ∀ u ∈ out, u < 4294967296) (And.intro (hF.1 : valL out = x / u) (hF.2.1 : r = x % u)))))))⟩)
abbrev T1 : Ctr Tryz.prog := FI.c T4
abbrev RS : FI := ⟨262, [.mag], [(.n 1099511627776)], fun z => (fun (x : Nat) => [(limbs x).length ≤ 2]) z, fun b z => (fun (x : Nat) => .c (.one (.dt (.nat .u64) (.n 18446744073709551615) x))) z⟩
theorem RT : RS.OK Tryz.prog := mkF hmix 21 Tryz.func262 rfl rfl (by decide) [] (fun _ => rfl) (fun _ => rfl) (fun _ _ => rfl) (fun (x : Nat) b hx hp => qe (Nat.le_of_lt_succ (HN (hp _ (List.mem_cons_self)))) rfl) (fun (x : Nat) hx hp => by
 have hx0 : lt2 x 1099511627776 := hx
 have hl0 : (limbs x).length ≤ 34359738369 := qf (Nat.le_of_lt hx0)
 have hp0 : (limbs x).length ≤ 2 := hp _ (List.mem_cons_self)
 exact ⟨.loop [.s 4 (.int .i64) (.n 68719476736), .s 3 (.nat .u64) (.n 18446744073709551615)] (fun ((z, v) : Int × Nat) => WordZ x z v) (fun ((z, v) : Int × Nat) => (z + 1).toNat) (fun ((z, v) : Int × Nat) => .cond (.h 5 1 (.i (.n (v * 2 ^ 32) 18446744073709551615)) (.h 5 4 (.ix z.toNat) (.h 5 7 (.i (.n ((v * 2 ^ 32) + ((limbs x).getD z.toNat 0)) 18446744073709551615)) (.nil)))) (.nil)), kcast (by kernel_rfl) (I (WordZ.start x : WordZ x ((((limbs x).length : Nat) : Int) - 1) 0) (fun (z : Int) (v : Nat) (hb1 : HB [.s 4 (.int .i64) (.n 68719476736), .s 3 (.nat .u64) (.n 18446744073709551615)] (z, v)) (hI : WordZ x z v) => have hv4 := (show Int.natAbs z ≤ 68719476736 from hb1.1); have hv5 := (show v ≤ 18446744073709551615 from hb1.2); have hB0 := hI.h0; have hB1 := hI.h1; And.intro (fun (h2 : 0 ≤ z) => have hw := hI.lt hp0 (by omega); I (Ei v 32 (by omega) (by omega) : qx .shl .u64 (v : Int) 32 ((v * 2 ^ 32 : Nat) : Int)) (I (by omega : v * 2 ^ 32 ≤ 18446744073709551615) (I (by omega : z = ((z.toNat : Nat) : Int)) (I (by omega : z.toNat < (limbs x).length) (I (Aj _ 32 rfl (q7 _ _) (by have := q7 x z.toNat; omega) : qx .or .u64 ((v * 2 ^ 32 : Nat) : Int) (((limbs x).getD z.toNat 0 : Nat) : Int) (((v * 2 ^ 32) + ((limbs x).getD z.toNat 0) : Nat) : Int)) (I (by have := q7 x z.toNat; omega : (v * 2 ^ 32) + ((limbs x).getD z.toNat 0) ≤ 18446744073709551615) (I (show Int.natAbs (z - 1) ≤ 68719476736 by omega : Bnd (.int .i64) (.n 68719476736) (z - 1)) (And.intro (hI.step (by omega) : WordZ x (z - 1) ((v * 2 ^ 32) + ((limbs x).getD z.toNat 0))) (by omega : ((z - 1) + 1).toNat < (z + 1).toNat))))))))) (fun (h3 : ¬ (0 ≤ z)) => (hI.fin (by omega) : v = x))))⟩)
abbrev RR : Ctr Tryz.prog := FI.c RT
abbrev SI : FI := ⟨215, [.mag], [(.n 1099511627776)], fun z => (fun (x : Nat) => [(limbs x).length ≤ 2]) z, fun b z => (fun (x : Nat) => .c (.one (.dt (.nat .u64) (.n 18446744073709551615) x))) z⟩
theorem SJ : SI.OK Tryz.prog := mkF hmix 21 Tryz.func215 rfl rfl (by decide) [] (fun _ => rfl) (fun _ => rfl) (fun _ _ => rfl) (fun (x : Nat) b hx hp => qe (Nat.le_of_lt_succ (HN (hp _ (List.mem_cons_self)))) rfl) (fun (x : Nat) hx hp => by
 have hx0 : lt2 x 1099511627776 := hx
 have hl0 : (limbs x).length ≤ 34359738369 := qf (Nat.le_of_lt hx0)
 have hp0 : (limbs x).length ≤ 2 := hp _ (List.mem_cons_self)
 exact ⟨.loop [.s 4 (.int .i64) (.n 68719476736), .s 3 (.nat .u64) (.n 18446744073709551615)] (fun ((z, v) : Int × Nat) => WordZ x z v) (fun ((z, v) : Int × Nat) => (z + 1).toNat) (fun ((z, v) : Int × Nat) => .cond (.h 5 1 (.i (.n (v * 2 ^ 32) 18446744073709551615)) (.h 5 4 (.ix z.toNat) (.h 5 7 (.i (.n ((v * 2 ^ 32) + ((limbs x).getD z.toNat 0)) 18446744073709551615)) (.nil)))) (.nil)), kcast (by kernel_rfl) (I (WordZ.start x : WordZ x ((((limbs x).length : Nat) : Int) - 1) 0) (fun (z : Int) (v : Nat) (hb1 : HB [.s 4 (.int .i64) (.n 68719476736), .s 3 (.nat .u64) (.n 18446744073709551615)] (z, v)) (hI : WordZ x z v) => have hv4 := (show Int.natAbs z ≤ 68719476736 from hb1.1); have hv5 := (show v ≤ 18446744073709551615 from hb1.2); have hB0 := hI.h0; have hB1 := hI.h1; And.intro (fun (h2 : 0 ≤ z) => have hw := hI.lt hp0 (by omega); I (Ei v 32 (by omega) (by omega) : qx .shl .u64 (v : Int) 32 ((v * 2 ^ 32 : Nat) : Int)) (I (by omega : v * 2 ^ 32 ≤ 18446744073709551615) (I (by omega : z = ((z.toNat : Nat) : Int)) (I (by omega : z.toNat < (limbs x).length) (I (Aj _ 32 rfl (q7 _ _) (by have := q7 x z.toNat; omega) : qx .or .u64 ((v * 2 ^ 32 : Nat) : Int) (((limbs x).getD z.toNat 0 : Nat) : Int) (((v * 2 ^ 32) + ((limbs x).getD z.toNat 0) : Nat) : Int)) (I (by have := q7 x z.toNat; omega : (v * 2 ^ 32) + ((limbs x).getD z.toNat 0) ≤ 18446744073709551615) (I (show Int.natAbs (z - 1) ≤ 68719476736 by omega : Bnd (.int .i64) (.n 68719476736) (z - 1)) (And.intro (hI.step (by omega) : WordZ x (z - 1) ((v * 2 ^ 32) + ((limbs x).getD z.toNat 0))) (by omega : ((z - 1) + 1).toNat < (z + 1).toNat))))))))) (fun (h3 : ¬ (0 ≤ z)) => (hI.fin (by omega) : v = x))))⟩)
abbrev JQ : Ctr Tryz.prog := FI.c SJ
abbrev Sj : FO := ⟨265, [.mag, (.nat .i64)], [(.n 1099511627776), (.n 32)], fun _ => [], fun k b z => (fun (x : Nat) (s : Nat) => .c (.one (.gs k ((limbs x).length + 1) 1 ((b0 b).nb / 32 + 2)))) z.1 z.2, fun b z => (fun (x : Nat) (s : Nat) => .gro (.nat .u32) (.n 4294967295) (padL (x * 2 ^ s) ((limbs x).length + 1))) z.1 z.2⟩
theorem JM : Sj.OK Tryz.prog := mkO hmix 41 12 Tryz.func265 rfl rfl (by decide) [] (fun _ => rfl) (fun _ _ _ => rfl) (fun _ _ => rfl) (fun _ _ _ => ⟨rfl, rfl⟩) (fun (x : Nat) (s : Nat) k b hx hp => ⟨qe (Nat.succ_le_succ (Jv (Bnds.h2 hx).1)) rfl, HZ _ _⟩) (fun (x : Nat) (s : Nat) hx hp => by
 have hx0 : lt2 x 1099511627776 := hx.1
 have hl0 : (limbs x).length ≤ 34359738369 := qf (Nat.le_of_lt hx0)
 have hx1 : s ≤ 32 := hx.2
 exact bodyO.g (.h 1 3 (.mk (.gro (.nat .u32) (.n 4294967295))) (.loop [.s 15 (.nat .i64) (.n 34359738369), .s 6 (.nat .u64) (.n 4294967295), .bk 12 (.nat .u32) (.n 4294967295)] (fun ((i, c, out) : Nat × Nat × List Nat) => RaiseI x s i c out) (fun ((i, c, out) : Nat × Nat × List Nat) => (limbs x).length - i) (fun ((i, c, out) : Nat × Nat × List Nat) => .cond (.h 6 4 (.i (.n (((limbs x).getD i 0) * 2 ^ s) 18446744073709551615)) (.h 6 5 (.i (.n (c + (((limbs x).getD i 0) * 2 ^ s)) 18446744073709551615)) (.nil))) (.nil)))) (kcast (by kernel_rfl) (I (by omega : ((limbs x).length) + 1 = ((limbs x).length) + 1) (I (RaiseI.start x s : RaiseI x s 0 0 (List.replicate (((limbs x).length) + 1) (0 : Nat))) (fun (i : Nat) (c : Nat) (out : List Nat) (hb1 : HB [.s 15 (.nat .i64) (.n 34359738369), .s 6 (.nat .u64) (.n 4294967295), .bk 12 (.nat .u32) (.n 4294967295)] (i, c, out)) (hI : RaiseI x s i c out) => have hv4 := (show i ≤ 34359738369 from hb1.1); have hv5 := (show c ≤ 4294967295 from hb1.2.1); have hv6 := (show ∀ u ∈ out, u ≤ 4294967295 from hb1.2.2); have hIl := hI.hl; have hIi := hI.hi; have hIc := hI.hc; have hg1 := q7 x i; have hbd := Gu hg1 hx1 hIc; And.intro (fun (h2 : i < (limbs x).length) => I (by omega : i < (limbs x).length) (I (Ei _ _ (by omega) (AB (by omega) (by omega)) : qx .shl .u64 (((limbs x).getD i 0 : Nat) : Int) (s : Int) ((((limbs x).getD i 0) * 2 ^ s : Nat) : Int)) (I (Nat.le_of_lt_succ (AB (by omega) (by omega)) : ((limbs x).getD i 0) * 2 ^ s ≤ 18446744073709551615) (I (Eh _ _ rfl hIc hbd : qx .or .u64 (c : Int) ((((limbs x).getD i 0) * 2 ^ s : Nat) : Int) ((c + (((limbs x).getD i 0) * 2 ^ s) : Nat) : Int)) (I (Nat.le_of_lt_succ hbd : c + (((limbs x).getD i 0) * 2 ^ s) ≤ 18446744073709551615) (I (by omega : i < ((limbs x).length) + 1) (I (by omega : i < out.length) (I (show (i + 1) ≤ 34359738369 by omega : Bnd (.nat .i64) (.n 34359738369) (i + 1)) (And.intro (hI.step (by omega) rfl : RaiseI x s (i + 1) ((c + (((limbs x).getD i 0) * 2 ^ s)) / 2 ^ 32) (out.set i ((c + (((limbs x).getD i 0) * 2 ^ s)) % 4294967296))) (by omega : (limbs x).length - (i + 1) < (limbs x).length - i)))))))))) (fun (h3 : ¬ (i < (limbs x).length)) => I (by omega : (limbs x).length < ((limbs x).length) + 1) (I (by omega : (limbs x).length < out.length) (And.intro (hI.fin' (by omega) (by omega) : out.set ((limbs x).length) c = padL (x * 2 ^ s) ((limbs x).length + 1)) ((by omega : ((limbs x).length) + 1 = (limbs x).length + 1))))))))))
abbrev Si : CtrO Tryz.prog := FO.c JM
abbrev Sh (k : Nat) (b : List Bd) (x : Nat) (s : Nat) : WV := .c (.one (.gs k ((limbs x).length + 1) 1 ((b0 b).nb / 32 + 2)))
abbrev Sg (b : List Bd) (x : Nat) (s : Nat) : WB := .gro (.nat .u32) (.n 4294967295) (padL (x * 2 ^ s) ((limbs x).length + 1))
theorem MU (d : Nat) (x : Nat) (s : Nat) (hx : Bnds [.mag, (.nat .i64)] [(.n 1099511627776), (.n 32)] (x, s)) (hp : ∀ c0 ∈ ([] : List Prop), c0) : SigG Tryz.prog 265 (argsE [.mag, (.nat .i64)] (x, s)) [] (Sh d [(.n 1099511627776), (.n 32)] x s).exp [(d, some (Sg [(.n 1099511627776), (.n 32)] x s).exp)] := JM.sig d (x, s) hx hp
abbrev I3 (b : List Bd) (x s : Nat) : WV := .c (.one (.dt (.sl (.nat .u32)) (.s ((b0 b).nb / 32 + 2) (.n 4294967295)) (padL (x * 2 ^ s) ((limbs x).length + 1))))
theorem MT (b : List Bd) (x s : Nat) (hx : Bnds [.mag, .nat .i64] b (x, s)) (hp : ∀ p ∈ ([] : List Prop), p) : (I3 b x s).ok := qe ⟨by rw [wi]; exact Nat.succ_le_succ (Jv (Bnds.h2 hx).1), HZ _ _⟩ rfl
def OZ : Ctr Tryz.prog := ⟨265, [.mag, .nat .i64], [.n 1099511627776, .n 32], fun z => [], fun b z => I3 b z.1 z.2, fun z hx hp => frzO (MU 0 z.1 z.2 hx hp) (by decide) (wi _ _).symm _, fun _ _ => rfl, fun b z hx hp => MT b z.1 z.2 hx hp⟩
abbrev of_i : FI := ⟨259, [(.nat .u64)], [(.n 18446744073709551615)], fun _ => [], fun b z => (fun (x : Nat) => .c (.one (.dt .mag (.n (Nat.log2 (b0 b).nb + 1)) (x)))) z⟩
theorem of_k : of_i.OK Tryz.prog := mkF hmix 10 Tryz.func259 rfl rfl (by decide) [] (fun _ => rfl) (fun _ => rfl) (fun _ _ => rfl) (fun (x : Nat) b hx hp => qe (Nat.lt_of_le_of_lt (Bnds.h1 hx).nat Nat.lt_log2_self) rfl) (fun (x : Nat) hx hp => by
 have hx0 : x ≤ 18446744073709551615 := hx
 exact ⟨.h 1 5 (.mk (.im (.nat .u32) (.n 4294967295))) (.h 1 6 (.c Af) (.nil)), kcast (by kernel_rfl) (I (by intro u hu; simp only [List.mem_cons, List.not_mem_nil, or_false] at hu; omega : ∀ u ∈ [x % 4294967296, x / 2 ^ 32], u < 4294967296) ((by simp only [valL]; omega : valL [x % 4294967296, x / 2 ^ 32] = x)))⟩)
abbrev of_c : Ctr Tryz.prog := FI.c of_k
def tab8 : ByteArray := ⟨#[0, 1, 2, 2, 3, 3, 3, 3, 4, 4, 4, 4, 4, 4, 4, 4, 5, 5, 5, 5, 5, 5, 5, 5, 5, 5, 5, 5, 5, 5, 5, 5, 6, 6, 6, 6, 6, 6, 6, 6, 6, 6, 6, 6, 6, 6, 6, 6, 6, 6, 6, 6, 6, 6, 6, 6, 6, 6, 6, 6, 6, 6, 6, 6, 7, 7, 7, 7, 7, 7, 7, 7, 7, 7, 7, 7, 7, 7, 7, 7, 7, 7, 7, 7, 7, 7, 7, 7, 7, 7, 7, 7, 7, 7, 7, 7, 7, 7, 7, 7, 7, 7, 7, 7, 7, 7, 7, 7, 7, 7, 7, 7, 7, 7, 7, 7, 7, 7, 7, 7, 7, 7, 7, 7, 7, 7, 7, 7, 8, 8, 8, 8, 8, 8, 8, 8, 8, 8, 8, 8, 8, 8, 8, 8, 8, 8, 8, 8, 8, 8, 8, 8, 8, 8, 8, 8, 8, 8, 8, 8, 8, 8, 8, 8, 8, 8, 8, 8, 8, 8, 8, 8, 8, 8, 8, 8, 8, 8, 8, 8, 8, 8, 8, 8, 8, 8, 8, 8, 8, 8, 8, 8, 8, 8, 8, 8, 8, 8, 8, 8, 8, 8, 8, 8, 8, 8, 8, 8, 8, 8, 8, 8, 8, 8, 8, 8, 8, 8, 8, 8, 8, 8, 8, 8, 8, 8, 8, 8, 8, 8, 8, 8, 8, 8, 8, 8, 8, 8, 8, 8, 8, 8, 8, 8, 8, 8, 8, 8, 8, 8, 8, 8, 8, 8, 8, 8]⟩
abbrev Qr : FO := ⟨209, [(.sl (.nat .u32))], [(.s 1099511627776 (.n 4294967295))], fun _ => [], fun k b z => (fun (ls : List Nat) => .c (.one (.gs k (ls.length) 1 ((b0 b).len)))) z, fun b z => (fun (ls : List Nat) => .gro (.nat .u32) ((b0 b).e) (ls)) z⟩
theorem Qs : Qr.OK Tryz.prog := mkO hmix 8 7 Tryz.func209 rfl rfl (by decide) [] (fun _ => rfl) (fun _ _ _ => rfl) (fun _ _ => rfl) (fun _ _ _ => ⟨rfl, rfl⟩) (fun (ls : List Nat) k b hx hp => ⟨qe (Bnds.h1 hx).sl.1 rfl, (Bnds.h1 hx).sl.2⟩) (fun (ls : List Nat) hx hp => by
 have hl0 : ls.length ≤ 1099511627776 := hx.1
 exact bodyO.g (.cond (.nil) (.h 3 0 (.mk (.gro (.nat .u32) (.n 4294967295))) (.nil))) (kcast (by kernel_rfl) (And.intro (fun (h1 : ls = []) => And.intro (h1.symm : ([] : List Nat) = ls) ((by rw [h1]; rfl : 0 = ls.length))) (I (rfl : 0 = ([] : List Nat).length) (And.intro (rfl : ([] : List Nat) ++ ls = ls) ((by omega : 0 + ls.length = ls.length)))))))
abbrev Qq (k : Nat) (b : List Bd) (ls : List Nat) : WV := .c (.one (.gs k (ls.length) 1 ((b0 b).len)))
abbrev Qp (b : List Bd) (ls : List Nat) : WB := .gro (.nat .u32) ((b0 b).e) (ls)
theorem LH (d : Nat) (ls : List Nat) (hx : Bnds [(.sl (.nat .u32))] [(.s 1099511627776 (.n 4294967295))] ls) (hp : ∀ c0 ∈ ([] : List Prop), c0) : SigG Tryz.prog 209 (argsE [(.sl (.nat .u32))] ls) [] (Qq d [(.s 1099511627776 (.n 4294967295))] ls).exp [(d, some (Qp [(.s 1099511627776 (.n 4294967295))] ls).exp)] := Qs.sig d ls hx hp
def A1 : Ctr Tryz.prog := ⟨209, [.sl (.nat .u32)], [.s 1099511627776 (.n 4294967295)], fun z => [], fun b z => .c (.one (.dt (.sl (.nat .u32)) (b0 b) z)), fun z hx hp => frzO (LH 0 z hx hp) (by decide) rfl _, fun _ _ => rfl, fun b z hx hp => qe (Bnds.h1 hx) rfl⟩
theorem Kj (x : Nat) (hx : Bnds [.mag] [.n 1099511627776] x) : Sig Tryz.prog 209 (argsE [.mag] x) (WV.c (.one (.dt .mag (.n 1099511627776) x))).exp := by
 have h := A1.sig (limbs x) ⟨Nat.le_trans (qf (Nat.le_of_lt hx)) (by decide), (Bnd.limbs hx).2⟩ (by intro p hp; cases hp)
 have e : (A1.res A1.bs (limbs x)).exp = (WV.c (.one (.dt .mag (.n 1099511627776) x))).exp := magE x _ _
 rw [e] at h
 rw [C6]; exact h
def Bo : Ctr Tryz.prog := ⟨209, [.mag], [.n 1099511627776], fun z => [], fun b z => .c (.one (.dt .mag (b0 b) z)), fun z hx hp => Kj z hx, fun _ _ => rfl, fun b z hx hp => qe (Bnds.h1 hx) rfl⟩
abbrev Tb : FV := ⟨220, true, (.nat .u32), (.n 4294967295), 1099511627776, [], [], fun l lo n cap z => [n = l.length], fun k b l lo n cap z => .c (.one (.gs k (limbs (valL l)).length 1 1099511627776)), fun l lo n cap z => l⟩
theorem Tc : Tb.OK Tryz.prog := mkSl hmix 21 Tryz.func220 rfl rfl (by decide) [] (fun _ => rfl) (fun _ _ _ _ _ => rfl) (fun _ _ _ _ _ _ _ => rfl) (fun _ _ _ _ _ _ => rfl) (fun (l : List Nat) (lo n cap : Nat)  k b hx hs hn (hm : n ≤ 1099511627776) hp => ⟨qe (Nat.le_trans (FG (G6 hs)) (by have := hp _ (List.mem_cons_self); omega)) rfl, hs⟩) (fun (l : List Nat) (lo n cap : Nat)  hs hx hn (hm : n ≤ 1099511627776) hp => by
 have hp0 : n = l.length := hp _ (List.mem_cons_self)
 have hU := G6 hs
 exact ⟨.loop [.s 3 (.nat .i64) (.n 1099511627776)] (fun (k : Nat) => k ≤ l.length ∧ valL (l.take k) = valL l) (fun (k : Nat) => k) (fun (k : Nat) => .cond (.h 2 5 (.i .sub) (.cond (.h 3 1 (.i .sub) (.nil)) (.nil))) (.nil)), kcast (by kernel_rfl) (I (⟨by omega, by rw [hp0, List.take_length]⟩ : n ≤ l.length ∧ valL (l.take n) = valL l) (fun (k : Nat) (hb1 : HB [.s 3 (.nat .i64) (.n 1099511627776)] k) (hC : k ≤ l.length ∧ valL (l.take k) = valL l) => have hv6 := (show k ≤ 1099511627776 from hb1); have hk := hC.1; And.intro (fun (h2 : 0 < k) => I (by omega : 1 ≤ k) (I (by omega : k - 1 < n) (I (by omega : k - 1 < l.length) (And.intro (fun (h3 : l.getD (k - 1) 0 = 0) => I (by omega : 1 ≤ k) (And.intro (⟨by omega, CQ hC.1 (by omega) hC.2 (by omega)⟩ : k - 1 ≤ l.length ∧ valL (l.take (k - 1)) = valL l) (by omega : k - 1 < k))) (fun (h4 : ¬ (l.getD (k - 1) 0 = 0)) => I (by omega : k ≤ n) (I (by omega : n ≤ l.length) (And.intro (Eq.refl l) ((by rw [← ze hU hC.1 hC.2 (by omega), List.length_take, Nat.min_eq_left hC.1] : k = (limbs (valL l)).length))))))))) (fun (h5 : ¬ (0 < k)) => I (by omega : k ≤ n) (I (by omega : n ≤ l.length) (And.intro (Eq.refl l) ((by rw [← ze hU hC.1 hC.2 (by omega), List.length_take, Nat.min_eq_left hC.1] : k = (limbs (valL l)).length)))))))⟩)
abbrev Ta : CtrS Tryz.prog := FV.c Tc
theorem bl_8 {x : Nat} (h : x < 256) : bl x ≤ 8 := by
 have h1 := Ek x
 rcases Nat.eq_zero_or_pos x with e | e
 ·subst e; decide
 ·have h2 := CY (n := x) (by omega)
  apply Nat.le_of_lt_succ
  apply Nat.lt_of_not_le
  intro h3
  have := Nat.pow_le_pow_right (show 0 < 2 by omega) (show 8 ≤ bl x - 1 by omega)
  omega
abbrev Ru : FI := ⟨261, [(.nat .u32)], [(.n 4294967295)], fun _ => [], fun b z => (fun (x : Nat) => .c (.one (.dt (.nat .i64) (.n (Nat.log2 (b0 b).nb + 1)) (bl x)))) z⟩
theorem Rv : Ru.OK Tryz.prog := mkF hmix 19 Tryz.func261 rfl rfl (by decide) [] (fun _ => rfl) (fun _ => rfl) (fun _ _ => rfl) (fun (x : Nat) b hx hp => qe (Hc (Bnds.h1 hx).nat) rfl) (fun (x : Nat) hx hp => by
 have hx0 : x ≤ 4294967295 := hx
 have h1 : 65536 ≤ x → bl x = bl (x / 2 ^ 16) + 16 := fun h => wZ (k := 16) h
 have h2 : 256 ≤ x / 2 ^ 16 → bl (x / 2 ^ 16) = bl (x / 2 ^ 16 / 2 ^ 8) + 8 := fun h => wZ (k := 8) h
 have h3 : 256 ≤ x → bl x = bl (x / 2 ^ 8) + 8 := fun h => wZ (k := 8) h
 exact ⟨.cond (.cond (.h 7 2 (.i (.n (((x / 2 ^ 16) / 2 ^ 8) % 256) 255)) (.h 7 3 (.any [.c (.one (.vl (.string tab8))), .c (.one (.dt (.nat .u8) (.n 255) (((x / 2 ^ 16) / 2 ^ 8) % 256)))] (.c (.one (.dt (.nat .u8) (.n 8) (bl (((x / 2 ^ 16) / 2 ^ 8) % 256))))) (qe (bl_8 (Nat.mod_lt _ (by decide))) rfl) (Op.index 9 (.const (.string tab8)) (.tmp 15)) (fun _ => B3 (j := (((x / 2 ^ 16) / 2 ^ 8) % 256)) (by kernel_rfl) rfl (Nat.mod_lt _ (by decide)) (by kernel_rfl))) (.nil))) (.h 7 2 (.i (.n ((x / 2 ^ 16) % 256) 255)) (.h 7 3 (.any [.c (.one (.vl (.string tab8))), .c (.one (.dt (.nat .u8) (.n 255) ((x / 2 ^ 16) % 256)))] (.c (.one (.dt (.nat .u8) (.n 8) (bl ((x / 2 ^ 16) % 256))))) (qe (bl_8 (Nat.mod_lt _ (by decide))) rfl) (Op.index 9 (.const (.string tab8)) (.tmp 15)) (fun _ => B3 (j := ((x / 2 ^ 16) % 256)) (by kernel_rfl) rfl (Nat.mod_lt _ (by decide)) (by kernel_rfl))) (.nil)))) (.cond (.h 7 2 (.i (.n ((x / 2 ^ 8) % 256) 255)) (.h 7 3 (.any [.c (.one (.vl (.string tab8))), .c (.one (.dt (.nat .u8) (.n 255) ((x / 2 ^ 8) % 256)))] (.c (.one (.dt (.nat .u8) (.n 8) (bl ((x / 2 ^ 8) % 256))))) (qe (bl_8 (Nat.mod_lt _ (by decide))) rfl) (Op.index 9 (.const (.string tab8)) (.tmp 15)) (fun _ => B3 (j := ((x / 2 ^ 8) % 256)) (by kernel_rfl) rfl (Nat.mod_lt _ (by decide)) (by kernel_rfl))) (.nil))) (.h 7 2 (.i (.n (x % 256) 255)) (.h 7 3 (.any [.c (.one (.vl (.string tab8))), .c (.one (.dt (.nat .u8) (.n 255) (x % 256)))] (.c (.one (.dt (.nat .u8) (.n 8) (bl (x % 256))))) (qe (bl_8 (Nat.mod_lt _ (by decide))) rfl) (Op.index 9 (.const (.string tab8)) (.tmp 15)) (fun _ => B3 (j := (x % 256)) (by kernel_rfl) rfl (Nat.mod_lt _ (by decide)) (by kernel_rfl))) (.nil)))), kcast (by kernel_rfl) (And.intro (fun (h1 : 65536 ≤ x) => And.intro (fun (h2 : 256 ≤ x / 2 ^ 16) => I (EH _ : IntKind.wrap .u8 (((x / 2 ^ 16) / 2 ^ 8 : Nat) : Int) = ((((x / 2 ^ 16) / 2 ^ 8) % 256 : Nat) : Int)) (I (by omega : ((x / 2 ^ 16) / 2 ^ 8) % 256 ≤ 255) (I (rfl : ([.c (.one (.vl (.string tab8))), .c (.one (.dt (.nat .u8) (.n 255) (((x / 2 ^ 16) / 2 ^ 8) % 256)))] : List WV) = [.c (.one (.vl (.string tab8))), .c (.one (.dt (.nat .u8) (.n 255) (((x / 2 ^ 16) / 2 ^ 8) % 256)))]) (I (rfl : (Op.index 9 (.const (.string tab8)) (.tmp 15) : Op) = Op.index 9 (.const (.string tab8)) (.tmp 15)) ((by rw [Nat.mod_eq_of_lt (show ((x / 2 ^ 16) / 2 ^ 8) < 256 by omega)]; omega : 24 + (bl (((x / 2 ^ 16) / 2 ^ 8) % 256)) = bl x)))))) (fun (h3 : ¬ (256 ≤ x / 2 ^ 16)) => I (EH _ : IntKind.wrap .u8 ((x / 2 ^ 16 : Nat) : Int) = (((x / 2 ^ 16) % 256 : Nat) : Int)) (I (by omega : (x / 2 ^ 16) % 256 ≤ 255) (I (rfl : ([.c (.one (.vl (.string tab8))), .c (.one (.dt (.nat .u8) (.n 255) ((x / 2 ^ 16) % 256)))] : List WV) = [.c (.one (.vl (.string tab8))), .c (.one (.dt (.nat .u8) (.n 255) ((x / 2 ^ 16) % 256)))]) (I (rfl : (Op.index 9 (.const (.string tab8)) (.tmp 15) : Op) = Op.index 9 (.const (.string tab8)) (.tmp 15)) ((by rw [Nat.mod_eq_of_lt (show (x / 2 ^ 16) < 256 by omega)]; omega : 16 + (bl ((x / 2 ^ 16) % 256)) = bl x))))))) (fun (h4 : ¬ (65536 ≤ x)) => And.intro (fun (h5 : 256 ≤ x) => I (EH _ : IntKind.wrap .u8 ((x / 2 ^ 8 : Nat) : Int) = (((x / 2 ^ 8) % 256 : Nat) : Int)) (I (by omega : (x / 2 ^ 8) % 256 ≤ 255) (I (rfl : ([.c (.one (.vl (.string tab8))), .c (.one (.dt (.nat .u8) (.n 255) ((x / 2 ^ 8) % 256)))] : List WV) = [.c (.one (.vl (.string tab8))), .c (.one (.dt (.nat .u8) (.n 255) ((x / 2 ^ 8) % 256)))]) (I (rfl : (Op.index 9 (.const (.string tab8)) (.tmp 15) : Op) = Op.index 9 (.const (.string tab8)) (.tmp 15)) ((by rw [Nat.mod_eq_of_lt (show (x / 2 ^ 8) < 256 by omega)]; omega : 8 + (bl ((x / 2 ^ 8) % 256)) = bl x)))))) (fun (h6 : ¬ (256 ≤ x)) => I (EH _ : IntKind.wrap .u8 (x : Int) = ((x % 256 : Nat) : Int)) (I (by omega : x % 256 ≤ 255) (I (rfl : ([.c (.one (.vl (.string tab8))), .c (.one (.dt (.nat .u8) (.n 255) (x % 256)))] : List WV) = [.c (.one (.vl (.string tab8))), .c (.one (.dt (.nat .u8) (.n 255) (x % 256)))]) (I (rfl : (Op.index 9 (.const (.string tab8)) (.tmp 15) : Op) = Op.index 9 (.const (.string tab8)) (.tmp 15)) ((by rw [Nat.mod_eq_of_lt (show x < 256 by omega)]; omega : 0 + (bl (x % 256)) = bl x))))))))⟩)
abbrev Ju : Ctr Tryz.prog := FI.c Rv
abbrev UM : FI := ⟨264, [(.nat .u32)], [(.n 4294967295)], fun _ => [], fun b z => (fun (x : Nat) => .c (.one (.dt (.nat .i64) (.n 32) (32 - bl x)))) z⟩
theorem UN : UM.OK Tryz.prog := mkF hmix 6 Tryz.func264 rfl rfl (by decide) [(261, .c Ju)] (fun _ => rfl) (fun _ => rfl) (fun _ _ => rfl) (fun (x : Nat) b hx hp => qe (Nat.sub_le _ _) rfl) (fun (x : Nat) hx hp => by
 have hx0 : x ≤ 4294967295 := hx
 have hb := @Kh x
 exact ⟨.h 1 2 (.i .sub) (.nil), kcast (by kernel_rfl) (I (by omega : bl x ≤ 32) ((by omega : 32 - (bl x) = 32 - bl x)))⟩)
abbrev UL : Ctr Tryz.prog := FI.c UN
abbrev TW : FI := ⟨214, [.mag], [(.n 1099511627776)], fun _ => [], fun b z => (fun (x : Nat) => .c (.one (.dt (.nat .i64) (b0 b) (bl x)))) z⟩
theorem TX : TW.OK Tryz.prog := mkF hmix 20 Tryz.func214 rfl rfl (by decide) [(220, .c wS), (261, .c Ju)] (fun _ => rfl) (fun _ => rfl) (fun _ _ => rfl) (fun (x : Nat) b hx hp => qe (LC (Bnds.h1 hx)) rfl) (fun (x : Nat) hx hp => by
 have hx0 : lt2 x 1099511627776 := hx
 have hl0 : (limbs x).length ≤ 34359738369 := qf (Nat.le_of_lt hx0)
 exact ⟨.cond (.nil) (.h 4 2 (.i .sub) (.h 4 7 (.i .sub) (.nil))), kcast (by kernel_rfl) (And.intro (fun (h1 : (limbs x).length = 0) => (by have := (nl0 (x := x)).1 (by omega); subst this; rfl : 0 = bl x)) (fun (h2 : ¬ ((limbs x).length = 0)) => have hpos := (show 0 < (limbs x).length by omega); have hBB := Fq hpos; I (by omega : 1 ≤ (limbs x).length) (I (by omega : 1 ≤ (limbs x).length) (I (by omega : ((limbs x).length) - 1 < (limbs x).length) ((by omega : (32 * (((limbs x).length) - 1)) + (bl ((limbs x).getD (((limbs x).length) - 1) 0)) = bl x))))))⟩)
abbrev LB : Ctr Tryz.prog := FI.c TX
abbrev Xg : FI := ⟨219, [.mag, .mag], [(.n 1099511627776), (.n 1099511627776)], fun z => (fun (x : Nat) (y : Nat) => [0 < y]) z.1 z.2, fun b z => (fun (x : Nat) (y : Nat) => .tup [.one (.dt .mag (b0 b) (x / y)), .one (.dt .mag (b1 b) (x % y)), .one (.kn .i64 0)]) z.1 z.2⟩
theorem Xh : Xg.OK Tryz.prog := mkF hmix 300 Tryz.func219 rfl rfl (by decide) [(208, .c Kk), (209, .c Bo), (220, .c Af), (263, .c T1), (264, .c UL), (265, .c OZ)] (fun _ => rfl) (fun _ => rfl) (fun _ _ => rfl) (fun (x : Nat) (y : Nat) b hx hp => qF (qe ((Bnds.h2 hx).1.magLe (Nat.div_le_self _ _)) rfl) (qF (qe ((Bnds.h2 hx).2.magLe (Nat.le_of_lt (Nat.mod_lt _ (hp _ (List.mem_cons_self))))) rfl) (qF Q7 jz))) (fun (x : Nat) (y : Nat) hx hp => by
 have hx0 : lt2 x 1099511627776 := hx.1
 have hl0 : (limbs x).length ≤ 34359738369 := qf (Nat.le_of_lt hx0)
 have hx1 : lt2 y 1099511627776 := hx.2
 have hl1 : (limbs y).length ≤ 34359738369 := qf (Nat.le_of_lt hx1)
 have hp0 : 0 < y := hp _ (List.mem_cons_self)
 have hyp := mt (nl0 (x := y)).1 (show ¬ y = 0 by omega)
 exact ⟨.h 1 1 (.c wS) (.h 1 3 (.c wS) (.cond (.dead) (.cond (.nil) (.cond (.h 8 2 (.mk (.im (.nat .u32) (.n 4294967295))) (.nil)) (.h 9 3 (.i .sub) ((fun (s : Nat) => .h 10 2 (.o Si) (.h 10 6 (.mag (y * 2 ^ s) 1099511627808) ((fun (m : Nat) => .h 12 3 (.i .sub) (.h 12 4 (.mk (.arr (.nat .u32) (.n 4294967295))) (.loop [.s 13 (.int .i64) (.n 1099511627776), .bk 66 (.nat .u32) (.n 4294967295), .a 77 (.nat .u32) (.n 4294967295)] (fun ((z, out, ql) : Int × List Nat × List Nat) => DivZ x y s z out ql) (fun ((z, out, ql) : Int × List Nat × List Nat) => (z + 1).toNat) (fun ((z, out, ql) : Int × List Nat × List Nat) => .cond ((fun (j : Nat) => .h 16 4 (.ix (j + m)) (.h 16 13 (.ix (j + m - 1)) (.h 16 16 (.i (.n (((out.getD (j + m) 0) * 2 ^ 32) + (out.getD (j + m - 1) 0)) 18446744073709551615)) ((fun (t : Nat) => .h 17 3 (.i .sub) (.h 17 11 (.i .sub) (.loop [.s 15 (.nat .u64) (.n 4294967297), .s 16 (.nat .u64) (.n 4294967295)] (fun ((q, r) : Nat × Nat) => Est x y s j out q r) (fun ((q, r) : Nat × Nat) => q) (fun ((q, r) : Nat × Nat) => .cond (.h 19 1 (.i .sub) (.h 20 3 (.i .sub) (.cond (.loop [.s 156 (.nat .i64) (.n 137438953472), .s 17 (.nat .u64) (.n 1), .s 18 (.nat .u64) (.n 4294967295), .bk 66 (.nat .u32) (.n 4294967295)] (fun ((i2, b, k, ls2) : Nat × Nat × Nat × List Nat) => MsI y s j (q - 1) out i2 k b ls2) (fun ((i2, b, k, ls2) : Nat × Nat × Nat × List Nat) => (limbs (y * 2 ^ s)).length - i2) (fun ((i2, b, k, ls2) : Nat × Nat × Nat × List Nat) => .cond (.h 26 5 (.i (.n (k + ((q - 1) * ((limbs (y * 2 ^ s)).getD i2 0))) 18446744073709551615)) (.h 27 4 (.ix (i2 + j)) (.h 27 8 (.i (.n ((k + ((q - 1) * ((limbs (y * 2 ^ s)).getD i2 0))) % 4294967296) 4294967295)) (.h 27 9 (.i (.n (dif (ls2.getD (i2 + j) 0) ((k + ((q - 1) * ((limbs (y * 2 ^ s)).getD i2 0))) % 4294967296)) 18446744073709551615)) (.h 27 11 (.i (.n (dif (dif (ls2.getD (i2 + j) 0) ((k + ((q - 1) * ((limbs (y * 2 ^ s)).getD i2 0))) % 4294967296)) b) 18446744073709551615)) (.h 28 6 (.ix (i2 + j)) (.nil))))))) (.h 32 4 (.ix (j + m)) (.h 32 8 (.i (.n (dif (ls2.getD (j + m) 0) k) 18446744073709551615)) (.h 32 10 (.i (.n (dif (dif (ls2.getD (j + m) 0) k) b) 18446744073709551615)) ((fun (d : Nat) => .h 33 6 (.ix (j + m)) (.cond (.h 35 1 (.i .sub) (.loop [.s 216 (.nat .i64) (.n 137438953472), .s 18 (.nat .u64) (.n 1), .bk 66 (.nat .u32) (.n 4294967295)] (fun ((i3, c3, ls3) : Nat × Nat × List Nat) => AbI y s j (ls2.set (j + m) (d % 4294967296)) i3 c3 ls3) (fun ((i3, c3, ls3) : Nat × Nat × List Nat) => (limbs (y * 2 ^ s)).length - i3) (fun ((i3, c3, ls3) : Nat × Nat × List Nat) => .cond (.h 40 5 (.ix (i3 + j)) (.h 41 6 (.ix (i3 + j)) (.nil))) (.h 44 4 (.ix (j + m)) (.h 44 8 (.i (.n (((ls3.getD (j + m) 0) + c3) % 4294967296) 4294967295)) (.h 44 9 (.ix (j + m)) (.h 45 4 (.ix j) (.nil)))))))) (.h 45 4 (.ix j) (.nil)))) (dif (dif (ls2.getD (j + m) 0) k) b))))))) (.nil)))) (.h 18 6 (.i .sub) (.h 18 18 (.ix (j + m - 2)) (.h 18 21 (.i (.n ((r * 2 ^ 32) + (out.getD (j + m - 2) 0)) 18446744073709551615)) (.cond (.h 19 1 (.i .sub) (.h 20 3 (.i .sub) (.cond (.loop [.s 156 (.nat .i64) (.n 137438953472), .s 17 (.nat .u64) (.n 1), .s 18 (.nat .u64) (.n 4294967295), .bk 66 (.nat .u32) (.n 4294967295)] (fun ((i2, b, k, ls2) : Nat × Nat × Nat × List Nat) => MsI y s j (q - 1) out i2 k b ls2) (fun ((i2, b, k, ls2) : Nat × Nat × Nat × List Nat) => (limbs (y * 2 ^ s)).length - i2) (fun ((i2, b, k, ls2) : Nat × Nat × Nat × List Nat) => .cond (.h 26 5 (.i (.n (k + ((q - 1) * ((limbs (y * 2 ^ s)).getD i2 0))) 18446744073709551615)) (.h 27 4 (.ix (i2 + j)) (.h 27 8 (.i (.n ((k + ((q - 1) * ((limbs (y * 2 ^ s)).getD i2 0))) % 4294967296) 4294967295)) (.h 27 9 (.i (.n (dif (ls2.getD (i2 + j) 0) ((k + ((q - 1) * ((limbs (y * 2 ^ s)).getD i2 0))) % 4294967296)) 18446744073709551615)) (.h 27 11 (.i (.n (dif (dif (ls2.getD (i2 + j) 0) ((k + ((q - 1) * ((limbs (y * 2 ^ s)).getD i2 0))) % 4294967296)) b) 18446744073709551615)) (.h 28 6 (.ix (i2 + j)) (.nil))))))) (.h 32 4 (.ix (j + m)) (.h 32 8 (.i (.n (dif (ls2.getD (j + m) 0) k) 18446744073709551615)) (.h 32 10 (.i (.n (dif (dif (ls2.getD (j + m) 0) k) b) 18446744073709551615)) ((fun (d : Nat) => .h 33 6 (.ix (j + m)) (.cond (.h 35 1 (.i .sub) (.loop [.s 216 (.nat .i64) (.n 137438953472), .s 18 (.nat .u64) (.n 1), .bk 66 (.nat .u32) (.n 4294967295)] (fun ((i3, c3, ls3) : Nat × Nat × List Nat) => AbI y s j (ls2.set (j + m) (d % 4294967296)) i3 c3 ls3) (fun ((i3, c3, ls3) : Nat × Nat × List Nat) => (limbs (y * 2 ^ s)).length - i3) (fun ((i3, c3, ls3) : Nat × Nat × List Nat) => .cond (.h 40 5 (.ix (i3 + j)) (.h 41 6 (.ix (i3 + j)) (.nil))) (.h 44 4 (.ix (j + m)) (.h 44 8 (.i (.n (((ls3.getD (j + m) 0) + c3) % 4294967296) 4294967295)) (.h 44 9 (.ix (j + m)) (.h 45 4 (.ix j) (.nil)))))))) (.h 45 4 (.ix j) (.nil)))) (dif (dif (ls2.getD (j + m) 0) k) b))))))) (.nil)))) (.loop [.s 156 (.nat .i64) (.n 137438953472), .s 17 (.nat .u64) (.n 1), .s 18 (.nat .u64) (.n 4294967295), .bk 66 (.nat .u32) (.n 4294967295)] (fun ((i2, b, k, ls2) : Nat × Nat × Nat × List Nat) => MsI y s j q out i2 k b ls2) (fun ((i2, b, k, ls2) : Nat × Nat × Nat × List Nat) => (limbs (y * 2 ^ s)).length - i2) (fun ((i2, b, k, ls2) : Nat × Nat × Nat × List Nat) => .cond (.h 26 5 (.i (.n (k + (q * ((limbs (y * 2 ^ s)).getD i2 0))) 18446744073709551615)) (.h 27 4 (.ix (i2 + j)) (.h 27 8 (.i (.n ((k + (q * ((limbs (y * 2 ^ s)).getD i2 0))) % 4294967296) 4294967295)) (.h 27 9 (.i (.n (dif (ls2.getD (i2 + j) 0) ((k + (q * ((limbs (y * 2 ^ s)).getD i2 0))) % 4294967296)) 18446744073709551615)) (.h 27 11 (.i (.n (dif (dif (ls2.getD (i2 + j) 0) ((k + (q * ((limbs (y * 2 ^ s)).getD i2 0))) % 4294967296)) b) 18446744073709551615)) (.h 28 6 (.ix (i2 + j)) (.nil))))))) (.h 32 4 (.ix (j + m)) (.h 32 8 (.i (.n (dif (ls2.getD (j + m) 0) k) 18446744073709551615)) (.h 32 10 (.i (.n (dif (dif (ls2.getD (j + m) 0) k) b) 18446744073709551615)) ((fun (d : Nat) => .h 33 6 (.ix (j + m)) (.cond (.h 35 1 (.i .sub) (.loop [.s 216 (.nat .i64) (.n 137438953472), .s 18 (.nat .u64) (.n 1), .bk 66 (.nat .u32) (.n 4294967295)] (fun ((i3, c3, ls3) : Nat × Nat × List Nat) => AbI y s j (ls2.set (j + m) (d % 4294967296)) i3 c3 ls3) (fun ((i3, c3, ls3) : Nat × Nat × List Nat) => (limbs (y * 2 ^ s)).length - i3) (fun ((i3, c3, ls3) : Nat × Nat × List Nat) => .cond (.h 40 5 (.ix (i3 + j)) (.h 41 6 (.ix (i3 + j)) (.nil))) (.h 44 4 (.ix (j + m)) (.h 44 8 (.i (.n (((ls3.getD (j + m) 0) + c3) % 4294967296) 4294967295)) (.h 44 9 (.ix (j + m)) (.h 45 4 (.ix j) (.nil)))))))) (.h 45 4 (.ix j) (.nil)))) (dif (dif (ls2.getD (j + m) 0) k) b))))))))))))))) (((out.getD (j + m) 0) * 2 ^ 32) + (out.getD (j + m - 1) 0)))))) z.toNat) (.h 46 1 (.s Ta) (.loop [.s 262 (.nat .i64) (.n 1099511627776), .bk 66 (.nat .u32) (.n 4294967295)] (fun ((i4, ls4) : Nat × List Nat) => DownI (valL out) s ((limbs x).length + 1) i4 ls4) (fun ((i4, ls4) : Nat × List Nat) => (limbs (valL out)).length - i4) (fun ((i4, ls4) : Nat × List Nat) => .cond (.h 50 5 (.i (.n ((ls4.getD i4 0) / 2 ^ s) 4294967295)) (.cond (.cond (.h 52 10 (.i .sub) (.h 52 11 (.i (.n (((ls4.set i4 ((ls4.getD i4 0) / 2 ^ s)).getD (i4 + 1) 0) * 2 ^ (32 - s) % 4294967296) 4294967295)) (.h 52 12 (.i (.n (((ls4.set i4 ((ls4.getD i4 0) / 2 ^ s)).getD i4 0) + (((ls4.set i4 ((ls4.getD i4 0) / 2 ^ s)).getD (i4 + 1) 0) * 2 ^ (32 - s) % 4294967296)) 4294967295)) (.nil)))) (.nil)) (.nil))) (.pre 54 (.frz 77 true [4, 5, 66]) (.pre 54 (.frz 66 false [4, 5]) (.nil)))))))))) ((limbs (y * 2 ^ s)).length)))) (32 - bl ((limbs y).getD (((limbs y).length) - 1) 0)))))))), kcast (by kernel_rfl) (And.intro (fun (h1 : (limbs y).length = 0) => (absurd (nl0.1 h1) (by omega) : False)) (fun (h2 : ¬ ((limbs y).length = 0)) => And.intro (fun (h3 : cmpN x y < 0) => And.intro ((Nat.div_eq_of_lt (jg.1 (by omega))).symm : 0 = x / y) ((Nat.mod_eq_of_lt (jg.1 (by omega))).symm : x = x % y)) (fun (h4 : ¬ (cmpN x y < 0)) => And.intro (fun (h5 : (limbs y).length = 1) => have hyx := (show y ≤ x from by have := mt jg.2 (show ¬ cmpN x y < 0 by omega); omega); have hl1 := (show (limbs y).length = 1 by omega); have hg0 := q7 y 0; have hy1 := (show (limbs y).getD 0 0 = y from by have := vk (x := y) (by omega); rw [hl1] at this; simpa [valL] using this.symm); I (by omega : 0 < (limbs y).length) (I (by omega : 0 < (limbs y).getD 0 0) (I (by intro u hu; simp only [List.mem_cons, List.not_mem_nil, or_false] at hu; subst hu; have := Nat.mod_lt x (show 0 < (limbs y).getD 0 0 by omega); omega : ∀ u ∈ [x % ((limbs y).getD 0 0)], u < 4294967296) (And.intro (by rw [hy1] : x / ((limbs y).getD 0 0) = x / y) (by rw [hy1]; rfl : valL [x % ((limbs y).getD 0 0)] = x % y))))) (fun (h6 : ¬ ((limbs y).length = 1)) => have hyx := (show y ≤ x from by have := mt jg.2 (show ¬ cmpN x y < 0 by omega); omega); have hg0 := q7 y ((limbs y).length - 1); have hsd := @Kh _ hg0; have hC0 := DivC.mk' (x := x) (y := y) (by omega) hyx; I (by omega : 1 ≤ (limbs y).length) (I (by omega : ((limbs y).length) - 1 < (limbs y).length) ((fun (s : Nat) (hs : s = 32 - bl ((limbs y).getD (((limbs y).length) - 1) 0)) => have hC := (show DivC x y s from by subst hs; exact hC0); have hss := hC.hs; have hV := hC.hV; have hC2 := hC.h2; have hCx := hC.hyx; I (Dh _ _ : ∀ u ∈ padL (y * 2 ^ s) ((limbs y).length + 1), u < 4294967296) (I (CB y s (by omega) : valL (padL (y * 2 ^ s) ((limbs y).length + 1)) = y * 2 ^ s) (I (Mo hx1 (by omega) : lt2 (y * 2 ^ s) 1099511627808) ((fun (m : Nat) (hm : m = (limbs y).length) => have hDt := (show 2147483648 ≤ (limbs (y * 2 ^ s)).getD (m - 1) 0 from by subst hm; exact hC.ht); I (by omega : m ≤ (limbs x).length + 1) (I (by omega : ((limbs x).length + 1) - m = ((limbs x).length + 1) - m) (I (DivZ.start hC (by omega) : DivZ x y s (((((limbs x).length + 1) - m : Nat) : Int) - 1) (padL (x * 2 ^ s) ((limbs x).length + 1)) (List.replicate (((limbs x).length + 1) - m) (0 : Nat))) (fun (z : Int) (out : List Nat) (ql : List Nat) (hb7 : HB [.s 13 (.int .i64) (.n 1099511627776), .bk 66 (.nat .u32) (.n 4294967295), .a 77 (.nat .u32) (.n 4294967295)] (z, out, ql)) (hD : DivZ x y s z out ql) => have hv75 := (show Int.natAbs z ≤ 1099511627776 from hb7.1); have hv76 := (show ∀ u ∈ out, u ≤ 4294967295 from hb7.2.1); have hv77 := (show ∀ u ∈ ql, u ≤ 4294967295 from hb7.2.2); have hDb := hD.b; have hg := (jy (by omega) hD.h.hu : ∀ k, out.getD k 0 < 4294967296); And.intro (fun (h8 : 0 ≤ z) => (fun (j : Nat) (hj : j = z.toNat) => have hz0 := (show 0 ≤ z by omega); have hD1 := hD.at hz0 hj; have hga := hg (j + m); have hgb := hg (j + m - 1); have hgc := hg (j + m - 2); have hva := q7 (y * 2 ^ s) (m - 1); have hvb := q7 (y * 2 ^ s) (m - 2); I (by omega : z + (m : Int) = ((j + m : Nat) : Int)) (I (by omega : j + m < (limbs x).length + 1) (I (by omega : j + m < out.length) (I (by omega : (z + (m : Int)) - 1 = ((j + m - 1 : Nat) : Int)) (I (by omega : j + m - 1 < (limbs x).length + 1) (I (by omega : j + m - 1 < out.length) (I (Aj _ 32 rfl (by omega) (by omega) : qx .or .u64 (((out.getD (j + m) 0) * 2 ^ 32 : Nat) : Int) ((out.getD (j + m - 1) 0 : Nat) : Int) ((((out.getD (j + m) 0) * 2 ^ 32) + (out.getD (j + m - 1) 0) : Nat) : Int)) (I (by omega : ((out.getD (j + m) 0) * 2 ^ 32) + (out.getD (j + m - 1) 0) ≤ 18446744073709551615) ((fun (t : Nat) (ht : t = ((out.getD (j + m) 0) * 2 ^ 32) + (out.getD (j + m - 1) 0)) => I (by omega : 1 ≤ m) (I (by omega : m - 1 < (limbs (y * 2 ^ s)).length) (I (by omega : 0 < (limbs (y * 2 ^ s)).getD (m - 1) 0) (I (by omega : 1 ≤ m) (I (by omega : m - 1 < (limbs (y * 2 ^ s)).length) (I (by omega : 0 < (limbs (y * 2 ^ s)).getD (m - 1) 0) (I (by subst hm; have hE0 := Est.start hC hD1 ht; first | exact hE0.hq | exact Nat.le_of_lt_succ hE0.hr : Bnd (.nat .u64) (.n 4294967297) (t / ((limbs (y * 2 ^ s)).getD (m - 1) 0))) (I (by subst hm; exact Est.start hC hD1 ht : Est x y s j out (t / ((limbs (y * 2 ^ s)).getD (m - 1) 0)) (t % ((limbs (y * 2 ^ s)).getD (m - 1) 0))) (fun (q : Nat) (r : Nat) (hb9 : HB [.s 15 (.nat .u64) (.n 4294967297), .s 16 (.nat .u64) (.n 4294967295)] (q, r)) (hE : Est x y s j out q r) => have hv63 := (show q ≤ 4294967297 from hb9.1); have hv64 := (show r ≤ 4294967295 from hb9.2); have hEq := hE.hq; have hEr := hE.hr; And.intro (fun (h10 : 4294967296 ≤ q) => have hTest := (show 4294967296 ≤ q ∨ r * 4294967296 + out.getD (j + m - 2) 0 < q * (limbs (y * 2 ^ s)).getD (m - 2) 0 from by first | exact .inl (by omega) | exact .inr (by omega)); have hq1 := (show 1 ≤ q from by subst hm; exact (hE.less hC hD1 hTest).2); I (by omega : 1 ≤ q) (I (by omega : 1 ≤ m) (I (by omega : m - 1 < (limbs (y * 2 ^ s)).length) (And.intro (fun (h11 : 4294967296 ≤ r + ((limbs (y * 2 ^ s)).getD (m - 1) 0)) => have hG := (show Dig x y s j out (q - 1) from by subst hm; first | exact hE.brk hC hD1 hTest (by omega) | exact hE.fin hC hD1 (by omega) (by omega)); I (MsI.start hD1.hu : MsI y s j (q - 1) out 0 0 0 out) (fun (i2 : Nat) (b : Nat) (k : Nat) (ls2 : List Nat) (hb12 : HB [.s 156 (.nat .i64) (.n 137438953472), .s 17 (.nat .u64) (.n 1), .s 18 (.nat .u64) (.n 4294967295), .bk 66 (.nat .u32) (.n 4294967295)] (i2, b, k, ls2)) (hM : MsI y s j (q - 1) out i2 k b ls2) => have hv23 := (show i2 ≤ 137438953472 from hb12.1); have hv24 := (show b ≤ 1 from hb12.2.1); have hv25 := (show k ≤ 4294967295 from hb12.2.2.1); have hv26 := (show ∀ u ∈ ls2, u ≤ 4294967295 from hb12.2.2.2); have hMl := hM.hl; have hMi := hM.hi; have hMk := hM.hk; have hMb := hM.hb; have hGq := hG.hq; have hmg := (jy (by omega) hM.hu : ∀ k, ls2.getD k 0 < 4294967296); have hmg0 := hmg (i2 + j); have hmt := hmg (j + m); have hmv := q7 (y * 2 ^ s) i2; have hmm := (Nat.mul_le_mul (by omega) (by omega) : (q - 1) * (limbs (y * 2 ^ s)).getD i2 0 ≤ 4294967295 * 4294967295); And.intro (fun (h13 : i2 < (limbs (y * 2 ^ s)).length) => I (by omega : i2 < (limbs (y * 2 ^ s)).length) (I (H9 (by omega) : qx .add .u64 (k : Int) (((q - 1) * ((limbs (y * 2 ^ s)).getD i2 0) : Nat) : Int) ((k + ((q - 1) * ((limbs (y * 2 ^ s)).getD i2 0)) : Nat) : Int)) (I (by omega : k + ((q - 1) * ((limbs (y * 2 ^ s)).getD i2 0)) ≤ 18446744073709551615) (I (by omega : (i2 : Int) + z = ((i2 + j : Nat) : Int)) (I (by omega : i2 + j < (limbs x).length + 1) (I (by omega : i2 + j < ls2.length) (I (Ha (by omega) : qx .and .u64 ((k + ((q - 1) * ((limbs (y * 2 ^ s)).getD i2 0)) : Nat) : Int) 4294967295 (((k + ((q - 1) * ((limbs (y * 2 ^ s)).getD i2 0))) % 4294967296 : Nat) : Int)) (I (by omega : (k + ((q - 1) * ((limbs (y * 2 ^ s)).getD i2 0))) % 4294967296 ≤ 4294967295) (I (vf (by first | omega | exact vw) (by omega) : qx .sub .u64 ((ls2.getD (i2 + j) 0 : Nat) : Int) (((k + ((q - 1) * ((limbs (y * 2 ^ s)).getD i2 0))) % 4294967296 : Nat) : Int) ((dif (ls2.getD (i2 + j) 0) ((k + ((q - 1) * ((limbs (y * 2 ^ s)).getD i2 0))) % 4294967296) : Nat) : Int)) (I (jR _ _ : dif (ls2.getD (i2 + j) 0) ((k + ((q - 1) * ((limbs (y * 2 ^ s)).getD i2 0))) % 4294967296) ≤ 18446744073709551615) (I (vf (by first | omega | exact vw) (by omega) : qx .sub .u64 ((dif (ls2.getD (i2 + j) 0) ((k + ((q - 1) * ((limbs (y * 2 ^ s)).getD i2 0))) % 4294967296) : Nat) : Int) (b : Int) ((dif (dif (ls2.getD (i2 + j) 0) ((k + ((q - 1) * ((limbs (y * 2 ^ s)).getD i2 0))) % 4294967296)) b : Nat) : Int)) (I (jR _ _ : dif (dif (ls2.getD (i2 + j) 0) ((k + ((q - 1) * ((limbs (y * 2 ^ s)).getD i2 0))) % 4294967296)) b ≤ 18446744073709551615) (I (by omega : (i2 : Int) + z = ((i2 + j : Nat) : Int)) (I (by omega : i2 + j < (limbs x).length + 1) (I (by omega : i2 + j < ls2.length) (I (show (i2 + 1) ≤ 137438953472 by omega : Bnd (.nat .i64) (.n 137438953472) (i2 + 1)) (And.intro ((hM.step (by omega) (by omega) hG.hq rfl rfl).1 : MsI y s j (q - 1) out (i2 + 1) ((k + ((q - 1) * ((limbs (y * 2 ^ s)).getD i2 0))) / 2 ^ 32) ((dif (dif (ls2.getD (i2 + j) 0) ((k + ((q - 1) * ((limbs (y * 2 ^ s)).getD i2 0))) % 4294967296)) b) / 2 ^ 63) (ls2.set (i2 + j) ((dif (dif (ls2.getD (i2 + j) 0) ((k + ((q - 1) * ((limbs (y * 2 ^ s)).getD i2 0))) % 4294967296)) b) % 4294967296))) (by omega : (limbs (y * 2 ^ s)).length - (i2 + 1) < (limbs (y * 2 ^ s)).length - i2)))))))))))))))))) (fun (h14 : ¬ (i2 < (limbs (y * 2 ^ s)).length)) => have hM1 := (show i2 = m by omega) ▸ hM; I (by omega : z + (m : Int) = ((j + m : Nat) : Int)) (I (by omega : j + m < (limbs x).length + 1) (I (by omega : j + m < ls2.length) (I (vf (by first | omega | exact vw) (by omega) : qx .sub .u64 ((ls2.getD (j + m) 0 : Nat) : Int) (k : Int) ((dif (ls2.getD (j + m) 0) k : Nat) : Int)) (I (jR _ _ : dif (ls2.getD (j + m) 0) k ≤ 18446744073709551615) (I (vf (by first | omega | exact vw) (by omega) : qx .sub .u64 ((dif (ls2.getD (j + m) 0) k : Nat) : Int) (b : Int) ((dif (dif (ls2.getD (j + m) 0) k) b : Nat) : Int)) (I (jR _ _ : dif (dif (ls2.getD (j + m) 0) k) b ≤ 18446744073709551615) ((fun (d : Nat) (hd : d = dif (dif (ls2.getD (j + m) 0) k) b) => I (by omega : z + (m : Int) = ((j + m : Nat) : Int)) (I (by omega : j + m < (limbs x).length + 1) (I (by omega : j + m < ls2.length) (have hT := MsI.top hM1 (by omega) (by omega) hd; have hT1 := hT.1; have hT2 := hT.2.1; have hT3 := hT.2.2.1; have hT4 := hT.2.2.2.1; have hT5 := hT.2.2.2.2; And.intro (fun (h15 : d / 2 ^ 63 ≠ 0) => have hd1 := (show d / 9223372036854775808 = 1 by omega); have hT1 := (show _ from by rw [hd1] at hT1; exact hT1); have hq1 := (show 1 ≤ (q - 1) from by subst hm; exact Dig.pos hC hD1 hT4 hT5 hT1); I (by omega : 1 ≤ q - 1) (I (AbI.start hT5 : AbI y s j (ls2.set (j + m) (d % 4294967296)) 0 0 (ls2.set (j + m) (d % 4294967296))) (fun (i3 : Nat) (c3 : Nat) (ls3 : List Nat) (hb16 : HB [.s 216 (.nat .i64) (.n 137438953472), .s 18 (.nat .u64) (.n 1), .bk 66 (.nat .u32) (.n 4294967295)] (i3, c3, ls3)) (hB : AbI y s j (ls2.set (j + m) (d % 4294967296)) i3 c3 ls3) => have hv19 := (show i3 ≤ 137438953472 from hb16.1); have hv20 := (show c3 ≤ 1 from hb16.2.1); have hv21 := (show ∀ u ∈ ls3, u ≤ 4294967295 from hb16.2.2); have hBl := hB.hl; have hBi := hB.hi; have hBc := hB.hc; have hbg := (jy (by omega) hB.hu : ∀ k, ls3.getD k 0 < 4294967296); have hbg0 := hbg (i3 + j); have hbt := hbg (j + m); have hbv := q7 (y * 2 ^ s) i3; And.intro (fun (h17 : i3 < (limbs (y * 2 ^ s)).length) => I (by omega : i3 < (limbs (y * 2 ^ s)).length) (I (by omega : (i3 : Int) + z = ((i3 + j : Nat) : Int)) (I (by omega : i3 + j < (limbs x).length + 1) (I (by omega : i3 + j < ls3.length) (I (by omega : (i3 : Int) + z = ((i3 + j : Nat) : Int)) (I (by omega : i3 + j < (limbs x).length + 1) (I (by omega : i3 + j < ls3.length) (I (show (i3 + 1) ≤ 137438953472 by omega : Bnd (.nat .i64) (.n 137438953472) (i3 + 1)) (And.intro (hB.step (by omega) (by omega) rfl : AbI y s j (ls2.set (j + m) (d % 4294967296)) (i3 + 1) ((c3 + ((ls3.getD (i3 + j) 0) + ((limbs (y * 2 ^ s)).getD i3 0))) / 2 ^ 32) (ls3.set (i3 + j) ((c3 + ((ls3.getD (i3 + j) 0) + ((limbs (y * 2 ^ s)).getD i3 0))) % 4294967296))) (by omega : (limbs (y * 2 ^ s)).length - (i3 + 1) < (limbs (y * 2 ^ s)).length - i3)))))))))) (fun (h18 : ¬ (i3 < (limbs (y * 2 ^ s)).length)) => have hB1 := (show i3 = m by omega) ▸ hB; I (by omega : z + (m : Int) = ((j + m : Nat) : Int)) (I (by omega : j + m < (limbs x).length + 1) (I (by omega : j + m < ls3.length) (I (Fo _ _ : qx .add .u32 ((ls3.getD (j + m) 0 : Nat) : Int) (c3 : Int) ((((ls3.getD (j + m) 0) + c3) % 4294967296 : Nat) : Int)) (I (by omega : ((ls3.getD (j + m) 0) + c3) % 4294967296 ≤ 4294967295) (I (by omega : z + (m : Int) = ((j + m : Nat) : Int)) (I (by omega : j + m < (limbs x).length + 1) (I (by omega : j + m < ls3.length) (have hA := AbI.top' hB1 (by omega) (by omega); I (by omega : z = (j : Int)) (I (by omega : j < ((limbs x).length + 1) - m) (I (by omega : j < ql.length) (I (show Int.natAbs (z - 1) ≤ 1099511627776 by omega : Bnd (.int .i64) (.n 1099511627776) (z - 1)) (And.intro (by subst hm; first | exact DivZ.of hz0 hj (hD1.even hC hG hT4 hT5 hT3 (by rw [show d / 9223372036854775808 = 0 by omega, Nat.mul_zero, Nat.add_zero] at hT1; exact hT1)) | exact DivZ.of hz0 hj (hA.elim fun c2 hA => hD1.odd hC hG hT4 hT5 hT3 hT1 hA.2.2.1 hA.2.2.2 hA.2.1 hA.1) : DivZ x y s (z - 1) (ls3.set (j + m) (((ls3.getD (j + m) 0) + c3) % 4294967296)) (ql.set j (((q - 1) - 1) % 4294967296))) (by omega : ((z - 1) + 1).toNat < (z + 1).toNat))))))))))))))))) (fun (h22 : ¬ (d / 2 ^ 63 ≠ 0)) => I (by omega : z = (j : Int)) (I (by omega : j < ((limbs x).length + 1) - m) (I (by omega : j < ql.length) (I (show Int.natAbs (z - 1) ≤ 1099511627776 by omega : Bnd (.int .i64) (.n 1099511627776) (z - 1)) (And.intro (by subst hm; first | exact DivZ.of hz0 hj (hD1.even hC hG hT4 hT5 hT3 (by rw [show d / 9223372036854775808 = 0 by omega, Nat.mul_zero, Nat.add_zero] at hT1; exact hT1)) | exact DivZ.of hz0 hj (hA.elim fun c2 hA => hD1.odd hC hG hT4 hT5 hT3 hT1 hA.2.2.1 hA.2.2.2 hA.2.1 hA.1) : DivZ x y s (z - 1) (ls2.set (j + m) (d % 4294967296)) (ql.set j ((q - 1) % 4294967296))) (by omega : ((z - 1) + 1).toNat < (z + 1).toNat)))))))))) (dif (dif (ls2.getD (j + m) 0) k) b) rfl)))))))))) (fun (h27 : ¬ (4294967296 ≤ r + ((limbs (y * 2 ^ s)).getD (m - 1) 0))) => I (show (r + ((limbs (y * 2 ^ s)).getD (m - 1) 0)) ≤ 4294967295 by omega : Bnd (.nat .u64) (.n 4294967295) (r + ((limbs (y * 2 ^ s)).getD (m - 1) 0))) (And.intro (by subst hm; exact hE.step hC hD1 hTest (by omega) : Est x y s j out (q - 1) (r + ((limbs (y * 2 ^ s)).getD (m - 1) 0))) (by omega : q - 1 < q))))))) (fun (h28 : ¬ (4294967296 ≤ q)) => I (by omega : 2 ≤ m) (I (by omega : m - 2 < (limbs (y * 2 ^ s)).length) (I (by omega : (z + (m : Int)) - 2 = ((j + m - 2 : Nat) : Int)) (I (by omega : j + m - 2 < (limbs x).length + 1) (I (by omega : j + m - 2 < out.length) (I (Aj _ 32 rfl (hg _) (by have := hg (j + m - 2); omega) : qx .or .u64 ((r * 2 ^ 32 : Nat) : Int) ((out.getD (j + m - 2) 0 : Nat) : Int) (((r * 2 ^ 32) + (out.getD (j + m - 2) 0) : Nat) : Int)) (I (by have := hg (j + m - 2); omega : (r * 2 ^ 32) + (out.getD (j + m - 2) 0) ≤ 18446744073709551615) (And.intro (fun (h29 : (r * 2 ^ 32) + (out.getD (j + m - 2) 0) < q * ((limbs (y * 2 ^ s)).getD (m - 2) 0)) => have hTest := (show 4294967296 ≤ q ∨ r * 4294967296 + out.getD (j + m - 2) 0 < q * (limbs (y * 2 ^ s)).getD (m - 2) 0 from by first | exact .inl (by omega) | exact .inr (by omega)); have hq1 := (show 1 ≤ q from by subst hm; exact (hE.less hC hD1 hTest).2); I (by omega : 1 ≤ q) (I (by omega : 1 ≤ m) (I (by omega : m - 1 < (limbs (y * 2 ^ s)).length) (And.intro (fun (h30 : 4294967296 ≤ r + ((limbs (y * 2 ^ s)).getD (m - 1) 0)) => have hG := (show Dig x y s j out (q - 1) from by subst hm; first | exact hE.brk hC hD1 hTest (by omega) | exact hE.fin hC hD1 (by omega) (by omega)); I (MsI.start hD1.hu : MsI y s j (q - 1) out 0 0 0 out) (fun (i2 : Nat) (b : Nat) (k : Nat) (ls2 : List Nat) (hb31 : HB [.s 156 (.nat .i64) (.n 137438953472), .s 17 (.nat .u64) (.n 1), .s 18 (.nat .u64) (.n 4294967295), .bk 66 (.nat .u32) (.n 4294967295)] (i2, b, k, ls2)) (hM : MsI y s j (q - 1) out i2 k b ls2) => have hv42 := (show i2 ≤ 137438953472 from hb31.1); have hv43 := (show b ≤ 1 from hb31.2.1); have hv44 := (show k ≤ 4294967295 from hb31.2.2.1); have hv45 := (show ∀ u ∈ ls2, u ≤ 4294967295 from hb31.2.2.2); have hMl := hM.hl; have hMi := hM.hi; have hMk := hM.hk; have hMb := hM.hb; have hGq := hG.hq; have hmg := (jy (by omega) hM.hu : ∀ k, ls2.getD k 0 < 4294967296); have hmg0 := hmg (i2 + j); have hmt := hmg (j + m); have hmv := q7 (y * 2 ^ s) i2; have hmm := (Nat.mul_le_mul (by omega) (by omega) : (q - 1) * (limbs (y * 2 ^ s)).getD i2 0 ≤ 4294967295 * 4294967295); And.intro (fun (h32 : i2 < (limbs (y * 2 ^ s)).length) => I (by omega : i2 < (limbs (y * 2 ^ s)).length) (I (H9 (by omega) : qx .add .u64 (k : Int) (((q - 1) * ((limbs (y * 2 ^ s)).getD i2 0) : Nat) : Int) ((k + ((q - 1) * ((limbs (y * 2 ^ s)).getD i2 0)) : Nat) : Int)) (I (by omega : k + ((q - 1) * ((limbs (y * 2 ^ s)).getD i2 0)) ≤ 18446744073709551615) (I (by omega : (i2 : Int) + z = ((i2 + j : Nat) : Int)) (I (by omega : i2 + j < (limbs x).length + 1) (I (by omega : i2 + j < ls2.length) (I (Ha (by omega) : qx .and .u64 ((k + ((q - 1) * ((limbs (y * 2 ^ s)).getD i2 0)) : Nat) : Int) 4294967295 (((k + ((q - 1) * ((limbs (y * 2 ^ s)).getD i2 0))) % 4294967296 : Nat) : Int)) (I (by omega : (k + ((q - 1) * ((limbs (y * 2 ^ s)).getD i2 0))) % 4294967296 ≤ 4294967295) (I (vf (by first | omega | exact vw) (by omega) : qx .sub .u64 ((ls2.getD (i2 + j) 0 : Nat) : Int) (((k + ((q - 1) * ((limbs (y * 2 ^ s)).getD i2 0))) % 4294967296 : Nat) : Int) ((dif (ls2.getD (i2 + j) 0) ((k + ((q - 1) * ((limbs (y * 2 ^ s)).getD i2 0))) % 4294967296) : Nat) : Int)) (I (jR _ _ : dif (ls2.getD (i2 + j) 0) ((k + ((q - 1) * ((limbs (y * 2 ^ s)).getD i2 0))) % 4294967296) ≤ 18446744073709551615) (I (vf (by first | omega | exact vw) (by omega) : qx .sub .u64 ((dif (ls2.getD (i2 + j) 0) ((k + ((q - 1) * ((limbs (y * 2 ^ s)).getD i2 0))) % 4294967296) : Nat) : Int) (b : Int) ((dif (dif (ls2.getD (i2 + j) 0) ((k + ((q - 1) * ((limbs (y * 2 ^ s)).getD i2 0))) % 4294967296)) b : Nat) : Int)) (I (jR _ _ : dif (dif (ls2.getD (i2 + j) 0) ((k + ((q - 1) * ((limbs (y * 2 ^ s)).getD i2 0))) % 4294967296)) b ≤ 18446744073709551615) (I (by omega : (i2 : Int) + z = ((i2 + j : Nat) : Int)) (I (by omega : i2 + j < (limbs x).length + 1) (I (by omega : i2 + j < ls2.length) (I (show (i2 + 1) ≤ 137438953472 by omega : Bnd (.nat .i64) (.n 137438953472) (i2 + 1)) (And.intro ((hM.step (by omega) (by omega) hG.hq rfl rfl).1 : MsI y s j (q - 1) out (i2 + 1) ((k + ((q - 1) * ((limbs (y * 2 ^ s)).getD i2 0))) / 2 ^ 32) ((dif (dif (ls2.getD (i2 + j) 0) ((k + ((q - 1) * ((limbs (y * 2 ^ s)).getD i2 0))) % 4294967296)) b) / 2 ^ 63) (ls2.set (i2 + j) ((dif (dif (ls2.getD (i2 + j) 0) ((k + ((q - 1) * ((limbs (y * 2 ^ s)).getD i2 0))) % 4294967296)) b) % 4294967296))) (by omega : (limbs (y * 2 ^ s)).length - (i2 + 1) < (limbs (y * 2 ^ s)).length - i2)))))))))))))))))) (fun (h33 : ¬ (i2 < (limbs (y * 2 ^ s)).length)) => have hM1 := (show i2 = m by omega) ▸ hM; I (by omega : z + (m : Int) = ((j + m : Nat) : Int)) (I (by omega : j + m < (limbs x).length + 1) (I (by omega : j + m < ls2.length) (I (vf (by first | omega | exact vw) (by omega) : qx .sub .u64 ((ls2.getD (j + m) 0 : Nat) : Int) (k : Int) ((dif (ls2.getD (j + m) 0) k : Nat) : Int)) (I (jR _ _ : dif (ls2.getD (j + m) 0) k ≤ 18446744073709551615) (I (vf (by first | omega | exact vw) (by omega) : qx .sub .u64 ((dif (ls2.getD (j + m) 0) k : Nat) : Int) (b : Int) ((dif (dif (ls2.getD (j + m) 0) k) b : Nat) : Int)) (I (jR _ _ : dif (dif (ls2.getD (j + m) 0) k) b ≤ 18446744073709551615) ((fun (d : Nat) (hd : d = dif (dif (ls2.getD (j + m) 0) k) b) => I (by omega : z + (m : Int) = ((j + m : Nat) : Int)) (I (by omega : j + m < (limbs x).length + 1) (I (by omega : j + m < ls2.length) (have hT := MsI.top hM1 (by omega) (by omega) hd; have hT1 := hT.1; have hT2 := hT.2.1; have hT3 := hT.2.2.1; have hT4 := hT.2.2.2.1; have hT5 := hT.2.2.2.2; And.intro (fun (h34 : d / 2 ^ 63 ≠ 0) => have hd1 := (show d / 9223372036854775808 = 1 by omega); have hT1 := (show _ from by rw [hd1] at hT1; exact hT1); have hq1 := (show 1 ≤ (q - 1) from by subst hm; exact Dig.pos hC hD1 hT4 hT5 hT1); I (by omega : 1 ≤ q - 1) (I (AbI.start hT5 : AbI y s j (ls2.set (j + m) (d % 4294967296)) 0 0 (ls2.set (j + m) (d % 4294967296))) (fun (i3 : Nat) (c3 : Nat) (ls3 : List Nat) (hb35 : HB [.s 216 (.nat .i64) (.n 137438953472), .s 18 (.nat .u64) (.n 1), .bk 66 (.nat .u32) (.n 4294967295)] (i3, c3, ls3)) (hB : AbI y s j (ls2.set (j + m) (d % 4294967296)) i3 c3 ls3) => have hv38 := (show i3 ≤ 137438953472 from hb35.1); have hv39 := (show c3 ≤ 1 from hb35.2.1); have hv40 := (show ∀ u ∈ ls3, u ≤ 4294967295 from hb35.2.2); have hBl := hB.hl; have hBi := hB.hi; have hBc := hB.hc; have hbg := (jy (by omega) hB.hu : ∀ k, ls3.getD k 0 < 4294967296); have hbg0 := hbg (i3 + j); have hbt := hbg (j + m); have hbv := q7 (y * 2 ^ s) i3; And.intro (fun (h36 : i3 < (limbs (y * 2 ^ s)).length) => I (by omega : i3 < (limbs (y * 2 ^ s)).length) (I (by omega : (i3 : Int) + z = ((i3 + j : Nat) : Int)) (I (by omega : i3 + j < (limbs x).length + 1) (I (by omega : i3 + j < ls3.length) (I (by omega : (i3 : Int) + z = ((i3 + j : Nat) : Int)) (I (by omega : i3 + j < (limbs x).length + 1) (I (by omega : i3 + j < ls3.length) (I (show (i3 + 1) ≤ 137438953472 by omega : Bnd (.nat .i64) (.n 137438953472) (i3 + 1)) (And.intro (hB.step (by omega) (by omega) rfl : AbI y s j (ls2.set (j + m) (d % 4294967296)) (i3 + 1) ((c3 + ((ls3.getD (i3 + j) 0) + ((limbs (y * 2 ^ s)).getD i3 0))) / 2 ^ 32) (ls3.set (i3 + j) ((c3 + ((ls3.getD (i3 + j) 0) + ((limbs (y * 2 ^ s)).getD i3 0))) % 4294967296))) (by omega : (limbs (y * 2 ^ s)).length - (i3 + 1) < (limbs (y * 2 ^ s)).length - i3)))))))))) (fun (h37 : ¬ (i3 < (limbs (y * 2 ^ s)).length)) => have hB1 := (show i3 = m by omega) ▸ hB; I (by omega : z + (m : Int) = ((j + m : Nat) : Int)) (I (by omega : j + m < (limbs x).length + 1) (I (by omega : j + m < ls3.length) (I (Fo _ _ : qx .add .u32 ((ls3.getD (j + m) 0 : Nat) : Int) (c3 : Int) ((((ls3.getD (j + m) 0) + c3) % 4294967296 : Nat) : Int)) (I (by omega : ((ls3.getD (j + m) 0) + c3) % 4294967296 ≤ 4294967295) (I (by omega : z + (m : Int) = ((j + m : Nat) : Int)) (I (by omega : j + m < (limbs x).length + 1) (I (by omega : j + m < ls3.length) (have hA := AbI.top' hB1 (by omega) (by omega); I (by omega : z = (j : Int)) (I (by omega : j < ((limbs x).length + 1) - m) (I (by omega : j < ql.length) (I (show Int.natAbs (z - 1) ≤ 1099511627776 by omega : Bnd (.int .i64) (.n 1099511627776) (z - 1)) (And.intro (by subst hm; first | exact DivZ.of hz0 hj (hD1.even hC hG hT4 hT5 hT3 (by rw [show d / 9223372036854775808 = 0 by omega, Nat.mul_zero, Nat.add_zero] at hT1; exact hT1)) | exact DivZ.of hz0 hj (hA.elim fun c2 hA => hD1.odd hC hG hT4 hT5 hT3 hT1 hA.2.2.1 hA.2.2.2 hA.2.1 hA.1) : DivZ x y s (z - 1) (ls3.set (j + m) (((ls3.getD (j + m) 0) + c3) % 4294967296)) (ql.set j (((q - 1) - 1) % 4294967296))) (by omega : ((z - 1) + 1).toNat < (z + 1).toNat))))))))))))))))) (fun (h41 : ¬ (d / 2 ^ 63 ≠ 0)) => I (by omega : z = (j : Int)) (I (by omega : j < ((limbs x).length + 1) - m) (I (by omega : j < ql.length) (I (show Int.natAbs (z - 1) ≤ 1099511627776 by omega : Bnd (.int .i64) (.n 1099511627776) (z - 1)) (And.intro (by subst hm; first | exact DivZ.of hz0 hj (hD1.even hC hG hT4 hT5 hT3 (by rw [show d / 9223372036854775808 = 0 by omega, Nat.mul_zero, Nat.add_zero] at hT1; exact hT1)) | exact DivZ.of hz0 hj (hA.elim fun c2 hA => hD1.odd hC hG hT4 hT5 hT3 hT1 hA.2.2.1 hA.2.2.2 hA.2.1 hA.1) : DivZ x y s (z - 1) (ls2.set (j + m) (d % 4294967296)) (ql.set j ((q - 1) % 4294967296))) (by omega : ((z - 1) + 1).toNat < (z + 1).toNat)))))))))) (dif (dif (ls2.getD (j + m) 0) k) b) rfl)))))))))) (fun (h46 : ¬ (4294967296 ≤ r + ((limbs (y * 2 ^ s)).getD (m - 1) 0))) => I (show (r + ((limbs (y * 2 ^ s)).getD (m - 1) 0)) ≤ 4294967295 by omega : Bnd (.nat .u64) (.n 4294967295) (r + ((limbs (y * 2 ^ s)).getD (m - 1) 0))) (And.intro (by subst hm; exact hE.step hC hD1 hTest (by omega) : Est x y s j out (q - 1) (r + ((limbs (y * 2 ^ s)).getD (m - 1) 0))) (by omega : q - 1 < q))))))) (fun (h47 : ¬ ((r * 2 ^ 32) + (out.getD (j + m - 2) 0) < q * ((limbs (y * 2 ^ s)).getD (m - 2) 0))) => have hG := (show Dig x y s j out q from by subst hm; first | exact hE.brk hC hD1 hTest (by omega) | exact hE.fin hC hD1 (by omega) (by omega)); I (MsI.start hD1.hu : MsI y s j q out 0 0 0 out) (fun (i2 : Nat) (b : Nat) (k : Nat) (ls2 : List Nat) (hb48 : HB [.s 156 (.nat .i64) (.n 137438953472), .s 17 (.nat .u64) (.n 1), .s 18 (.nat .u64) (.n 4294967295), .bk 66 (.nat .u32) (.n 4294967295)] (i2, b, k, ls2)) (hM : MsI y s j q out i2 k b ls2) => have hv59 := (show i2 ≤ 137438953472 from hb48.1); have hv60 := (show b ≤ 1 from hb48.2.1); have hv61 := (show k ≤ 4294967295 from hb48.2.2.1); have hv62 := (show ∀ u ∈ ls2, u ≤ 4294967295 from hb48.2.2.2); have hMl := hM.hl; have hMi := hM.hi; have hMk := hM.hk; have hMb := hM.hb; have hGq := hG.hq; have hmg := (jy (by omega) hM.hu : ∀ k, ls2.getD k 0 < 4294967296); have hmg0 := hmg (i2 + j); have hmt := hmg (j + m); have hmv := q7 (y * 2 ^ s) i2; have hmm := (Nat.mul_le_mul (by omega) (by omega) : q * (limbs (y * 2 ^ s)).getD i2 0 ≤ 4294967295 * 4294967295); And.intro (fun (h49 : i2 < (limbs (y * 2 ^ s)).length) => I (by omega : i2 < (limbs (y * 2 ^ s)).length) (I (H9 (by omega) : qx .add .u64 (k : Int) ((q * ((limbs (y * 2 ^ s)).getD i2 0) : Nat) : Int) ((k + (q * ((limbs (y * 2 ^ s)).getD i2 0)) : Nat) : Int)) (I (by omega : k + (q * ((limbs (y * 2 ^ s)).getD i2 0)) ≤ 18446744073709551615) (I (by omega : (i2 : Int) + z = ((i2 + j : Nat) : Int)) (I (by omega : i2 + j < (limbs x).length + 1) (I (by omega : i2 + j < ls2.length) (I (Ha (by omega) : qx .and .u64 ((k + (q * ((limbs (y * 2 ^ s)).getD i2 0)) : Nat) : Int) 4294967295 (((k + (q * ((limbs (y * 2 ^ s)).getD i2 0))) % 4294967296 : Nat) : Int)) (I (by omega : (k + (q * ((limbs (y * 2 ^ s)).getD i2 0))) % 4294967296 ≤ 4294967295) (I (vf (by first | omega | exact vw) (by omega) : qx .sub .u64 ((ls2.getD (i2 + j) 0 : Nat) : Int) (((k + (q * ((limbs (y * 2 ^ s)).getD i2 0))) % 4294967296 : Nat) : Int) ((dif (ls2.getD (i2 + j) 0) ((k + (q * ((limbs (y * 2 ^ s)).getD i2 0))) % 4294967296) : Nat) : Int)) (I (jR _ _ : dif (ls2.getD (i2 + j) 0) ((k + (q * ((limbs (y * 2 ^ s)).getD i2 0))) % 4294967296) ≤ 18446744073709551615) (I (vf (by first | omega | exact vw) (by omega) : qx .sub .u64 ((dif (ls2.getD (i2 + j) 0) ((k + (q * ((limbs (y * 2 ^ s)).getD i2 0))) % 4294967296) : Nat) : Int) (b : Int) ((dif (dif (ls2.getD (i2 + j) 0) ((k + (q * ((limbs (y * 2 ^ s)).getD i2 0))) % 4294967296)) b : Nat) : Int)) (I (jR _ _ : dif (dif (ls2.getD (i2 + j) 0) ((k + (q * ((limbs (y * 2 ^ s)).getD i2 0))) % 4294967296)) b ≤ 18446744073709551615) (I (by omega : (i2 : Int) + z = ((i2 + j : Nat) : Int)) (I (by omega : i2 + j < (limbs x).length + 1) (I (by omega : i2 + j < ls2.length) (I (show (i2 + 1) ≤ 137438953472 by omega : Bnd (.nat .i64) (.n 137438953472) (i2 + 1)) (And.intro ((hM.step (by omega) (by omega) hG.hq rfl rfl).1 : MsI y s j q out (i2 + 1) ((k + (q * ((limbs (y * 2 ^ s)).getD i2 0))) / 2 ^ 32) ((dif (dif (ls2.getD (i2 + j) 0) ((k + (q * ((limbs (y * 2 ^ s)).getD i2 0))) % 4294967296)) b) / 2 ^ 63) (ls2.set (i2 + j) ((dif (dif (ls2.getD (i2 + j) 0) ((k + (q * ((limbs (y * 2 ^ s)).getD i2 0))) % 4294967296)) b) % 4294967296))) (by omega : (limbs (y * 2 ^ s)).length - (i2 + 1) < (limbs (y * 2 ^ s)).length - i2)))))))))))))))))) (fun (h50 : ¬ (i2 < (limbs (y * 2 ^ s)).length)) => have hM1 := (show i2 = m by omega) ▸ hM; I (by omega : z + (m : Int) = ((j + m : Nat) : Int)) (I (by omega : j + m < (limbs x).length + 1) (I (by omega : j + m < ls2.length) (I (vf (by first | omega | exact vw) (by omega) : qx .sub .u64 ((ls2.getD (j + m) 0 : Nat) : Int) (k : Int) ((dif (ls2.getD (j + m) 0) k : Nat) : Int)) (I (jR _ _ : dif (ls2.getD (j + m) 0) k ≤ 18446744073709551615) (I (vf (by first | omega | exact vw) (by omega) : qx .sub .u64 ((dif (ls2.getD (j + m) 0) k : Nat) : Int) (b : Int) ((dif (dif (ls2.getD (j + m) 0) k) b : Nat) : Int)) (I (jR _ _ : dif (dif (ls2.getD (j + m) 0) k) b ≤ 18446744073709551615) ((fun (d : Nat) (hd : d = dif (dif (ls2.getD (j + m) 0) k) b) => I (by omega : z + (m : Int) = ((j + m : Nat) : Int)) (I (by omega : j + m < (limbs x).length + 1) (I (by omega : j + m < ls2.length) (have hT := MsI.top hM1 (by omega) (by omega) hd; have hT1 := hT.1; have hT2 := hT.2.1; have hT3 := hT.2.2.1; have hT4 := hT.2.2.2.1; have hT5 := hT.2.2.2.2; And.intro (fun (h51 : d / 2 ^ 63 ≠ 0) => have hd1 := (show d / 9223372036854775808 = 1 by omega); have hT1 := (show _ from by rw [hd1] at hT1; exact hT1); have hq1 := (show 1 ≤ q from by subst hm; exact Dig.pos hC hD1 hT4 hT5 hT1); I (by omega : 1 ≤ q) (I (AbI.start hT5 : AbI y s j (ls2.set (j + m) (d % 4294967296)) 0 0 (ls2.set (j + m) (d % 4294967296))) (fun (i3 : Nat) (c3 : Nat) (ls3 : List Nat) (hb52 : HB [.s 216 (.nat .i64) (.n 137438953472), .s 18 (.nat .u64) (.n 1), .bk 66 (.nat .u32) (.n 4294967295)] (i3, c3, ls3)) (hB : AbI y s j (ls2.set (j + m) (d % 4294967296)) i3 c3 ls3) => have hv55 := (show i3 ≤ 137438953472 from hb52.1); have hv56 := (show c3 ≤ 1 from hb52.2.1); have hv57 := (show ∀ u ∈ ls3, u ≤ 4294967295 from hb52.2.2); have hBl := hB.hl; have hBi := hB.hi; have hBc := hB.hc; have hbg := (jy (by omega) hB.hu : ∀ k, ls3.getD k 0 < 4294967296); have hbg0 := hbg (i3 + j); have hbt := hbg (j + m); have hbv := q7 (y * 2 ^ s) i3; And.intro (fun (h53 : i3 < (limbs (y * 2 ^ s)).length) => I (by omega : i3 < (limbs (y * 2 ^ s)).length) (I (by omega : (i3 : Int) + z = ((i3 + j : Nat) : Int)) (I (by omega : i3 + j < (limbs x).length + 1) (I (by omega : i3 + j < ls3.length) (I (by omega : (i3 : Int) + z = ((i3 + j : Nat) : Int)) (I (by omega : i3 + j < (limbs x).length + 1) (I (by omega : i3 + j < ls3.length) (I (show (i3 + 1) ≤ 137438953472 by omega : Bnd (.nat .i64) (.n 137438953472) (i3 + 1)) (And.intro (hB.step (by omega) (by omega) rfl : AbI y s j (ls2.set (j + m) (d % 4294967296)) (i3 + 1) ((c3 + ((ls3.getD (i3 + j) 0) + ((limbs (y * 2 ^ s)).getD i3 0))) / 2 ^ 32) (ls3.set (i3 + j) ((c3 + ((ls3.getD (i3 + j) 0) + ((limbs (y * 2 ^ s)).getD i3 0))) % 4294967296))) (by omega : (limbs (y * 2 ^ s)).length - (i3 + 1) < (limbs (y * 2 ^ s)).length - i3)))))))))) (fun (h54 : ¬ (i3 < (limbs (y * 2 ^ s)).length)) => have hB1 := (show i3 = m by omega) ▸ hB; I (by omega : z + (m : Int) = ((j + m : Nat) : Int)) (I (by omega : j + m < (limbs x).length + 1) (I (by omega : j + m < ls3.length) (I (Fo _ _ : qx .add .u32 ((ls3.getD (j + m) 0 : Nat) : Int) (c3 : Int) ((((ls3.getD (j + m) 0) + c3) % 4294967296 : Nat) : Int)) (I (by omega : ((ls3.getD (j + m) 0) + c3) % 4294967296 ≤ 4294967295) (I (by omega : z + (m : Int) = ((j + m : Nat) : Int)) (I (by omega : j + m < (limbs x).length + 1) (I (by omega : j + m < ls3.length) (have hA := AbI.top' hB1 (by omega) (by omega); I (by omega : z = (j : Int)) (I (by omega : j < ((limbs x).length + 1) - m) (I (by omega : j < ql.length) (I (show Int.natAbs (z - 1) ≤ 1099511627776 by omega : Bnd (.int .i64) (.n 1099511627776) (z - 1)) (And.intro (by subst hm; first | exact DivZ.of hz0 hj (hD1.even hC hG hT4 hT5 hT3 (by rw [show d / 9223372036854775808 = 0 by omega, Nat.mul_zero, Nat.add_zero] at hT1; exact hT1)) | exact DivZ.of hz0 hj (hA.elim fun c2 hA => hD1.odd hC hG hT4 hT5 hT3 hT1 hA.2.2.1 hA.2.2.2 hA.2.1 hA.1) : DivZ x y s (z - 1) (ls3.set (j + m) (((ls3.getD (j + m) 0) + c3) % 4294967296)) (ql.set j ((q - 1) % 4294967296))) (by omega : ((z - 1) + 1).toNat < (z + 1).toNat))))))))))))))))) (fun (h58 : ¬ (d / 2 ^ 63 ≠ 0)) => I (by omega : z = (j : Int)) (I (by omega : j < ((limbs x).length + 1) - m) (I (by omega : j < ql.length) (I (show Int.natAbs (z - 1) ≤ 1099511627776 by omega : Bnd (.int .i64) (.n 1099511627776) (z - 1)) (And.intro (by subst hm; first | exact DivZ.of hz0 hj (hD1.even hC hG hT4 hT5 hT3 (by rw [show d / 9223372036854775808 = 0 by omega, Nat.mul_zero, Nat.add_zero] at hT1; exact hT1)) | exact DivZ.of hz0 hj (hA.elim fun c2 hA => hD1.odd hC hG hT4 hT5 hT3 hT1 hA.2.2.1 hA.2.2.2 hA.2.1 hA.1) : DivZ x y s (z - 1) (ls2.set (j + m) (d % 4294967296)) (ql.set j (q % 4294967296))) (by omega : ((z - 1) + 1).toNat < (z + 1).toNat)))))))))) (dif (dif (ls2.getD (j + m) 0) k) b) rfl))))))))))))))))))))))))))) (((out.getD (j + m) 0) * 2 ^ 32) + (out.getD (j + m - 1) 0)) rfl))))))))) z.toNat rfl) (fun (h65 : ¬ (0 ≤ z)) => have hF := hD.fin (by omega); I (by omega : (limbs x).length + 1 = out.length) (I (DownI.start hF.2.2.2 hDb.2.2.1 rfl : DownI (valL out) s ((limbs x).length + 1) 0 out) (fun (i4 : Nat) (ls4 : List Nat) (hb66 : HB [.s 262 (.nat .i64) (.n 1099511627776), .bk 66 (.nat .u32) (.n 4294967295)] (i4, ls4)) (hW : DownI (valL out) s ((limbs x).length + 1) i4 ls4) => have hv73 := (show i4 ≤ 1099511627776 from hb66.1); have hv74 := (show ∀ u ∈ ls4, u ≤ 4294967295 from hb66.2); have hWl := hW.hl; have hWi := hW.hi; have hWN := hW.hN; have hwg := (jy (by omega) hW.hu : ∀ k, ls4.getD k 0 < 4294967296); And.intro (fun (h67 : i4 < (limbs (valL out)).length) => I (by omega : i4 < (limbs (valL out)).length) (I (by omega : i4 < ls4.length) (I (Hb _ _ (show s ≤ 32 by omega) : qx .shr .u32 ((ls4.getD i4 0 : Nat) : Int) (s : Int) (((ls4.getD i4 0) / 2 ^ s : Nat) : Int)) (I (Nat.le_trans (Nat.div_le_self _ _) (by have := hwg i4; omega) : (ls4.getD i4 0) / 2 ^ s ≤ 4294967295) (I (by omega : i4 < (limbs (valL out)).length) (I (by omega : i4 < ls4.length) (And.intro (fun (h68 : 0 < s) => And.intro (fun (h69 : i4 + 1 < (limbs (valL out)).length) => I (by omega : i4 < (limbs (valL out)).length) (I (by simp only [List.length_set]; omega : i4 < (ls4.set i4 ((ls4.getD i4 0) / 2 ^ s)).length) (I (by omega : i4 + 1 < (limbs (valL out)).length) (I (by simp only [List.length_set]; omega : i4 + 1 < (ls4.set i4 ((ls4.getD i4 0) / 2 ^ s)).length) (I (by omega : s ≤ 32) (I (Qi _ _ (by omega) : qx .shl .u32 (((ls4.set i4 ((ls4.getD i4 0) / 2 ^ s)).getD (i4 + 1) 0 : Nat) : Int) ((32 - s : Nat) : Int) ((((ls4.set i4 ((ls4.getD i4 0) / 2 ^ s)).getD (i4 + 1) 0) * 2 ^ (32 - s) % 4294967296 : Nat) : Int)) (I (by omega : ((ls4.set i4 ((ls4.getD i4 0) / 2 ^ s)).getD (i4 + 1) 0) * 2 ^ (32 - s) % 4294967296 ≤ 4294967295) (I ((Jj (by omega) hwg (by omega)).1 : qx .or .u32 (((ls4.set i4 ((ls4.getD i4 0) / 2 ^ s)).getD i4 0 : Nat) : Int) ((((ls4.set i4 ((ls4.getD i4 0) / 2 ^ s)).getD (i4 + 1) 0) * 2 ^ (32 - s) % 4294967296 : Nat) : Int) ((((ls4.set i4 ((ls4.getD i4 0) / 2 ^ s)).getD i4 0) + (((ls4.set i4 ((ls4.getD i4 0) / 2 ^ s)).getD (i4 + 1) 0) * 2 ^ (32 - s) % 4294967296) : Nat) : Int)) (I ((Jj (by omega) hwg (by omega)).2 : ((ls4.set i4 ((ls4.getD i4 0) / 2 ^ s)).getD i4 0) + (((ls4.set i4 ((ls4.getD i4 0) / 2 ^ s)).getD (i4 + 1) 0) * 2 ^ (32 - s) % 4294967296) ≤ 4294967295) (I (by omega : i4 < (limbs (valL out)).length) (I (by simp only [List.length_set]; omega : i4 < (ls4.set i4 ((ls4.getD i4 0) / 2 ^ s)).length) (I (show (i4 + 1) ≤ 1099511627776 by omega : Bnd (.nat .i64) (.n 1099511627776) (i4 + 1)) (And.intro (by first | exact hW.step1 (by omega) (by omega) (by omega) | exact hW.step2 (by omega) (by omega) : DownI (valL out) s ((limbs x).length + 1) (i4 + 1) ((ls4.set i4 ((ls4.getD i4 0) / 2 ^ s)).set i4 (((ls4.set i4 ((ls4.getD i4 0) / 2 ^ s)).getD i4 0) + (((ls4.set i4 ((ls4.getD i4 0) / 2 ^ s)).getD (i4 + 1) 0) * 2 ^ (32 - s) % 4294967296)))) (by omega : (limbs (valL out)).length - (i4 + 1) < (limbs (valL out)).length - i4)))))))))))))) (fun (h70 : ¬ (i4 + 1 < (limbs (valL out)).length)) => I (show (i4 + 1) ≤ 1099511627776 by omega : Bnd (.nat .i64) (.n 1099511627776) (i4 + 1)) (And.intro (by first | exact hW.step1 (by omega) (by omega) (by omega) | exact hW.step2 (by omega) (by omega) : DownI (valL out) s ((limbs x).length + 1) (i4 + 1) (ls4.set i4 ((ls4.getD i4 0) / 2 ^ s))) (by omega : (limbs (valL out)).length - (i4 + 1) < (limbs (valL out)).length - i4)))) (fun (h71 : ¬ (0 < s)) => I (show (i4 + 1) ≤ 1099511627776 by omega : Bnd (.nat .i64) (.n 1099511627776) (i4 + 1)) (And.intro (by first | exact hW.step1 (by omega) (by omega) (by omega) | exact hW.step2 (by omega) (by omega) : DownI (valL out) s ((limbs x).length + 1) (i4 + 1) (ls4.set i4 ((ls4.getD i4 0) / 2 ^ s))) (by omega : (limbs (valL out)).length - (i4 + 1) < (limbs (valL out)).length - i4)))))))))) (fun (h72 : ¬ (i4 < (limbs (valL out)).length)) => I (by omega : ((limbs x).length + 1) - m = ql.length) (I (by omega : (limbs (valL out)).length ≤ ls4.length) (have hFin := (DownI.fin' hW (by omega) rfl); I (hF.2.2.1 : ∀ u ∈ ql, u < 4294967296) (I (hFin.2 : ∀ u ∈ ls4.take ((limbs (valL out)).length), u < 4294967296) (And.intro (hF.1 : valL ql = x / y) (by rw [hFin.1, hF.2.1, Nat.mul_div_cancel _ (Nat.pow_pos (by omega))] : valL (ls4.take ((limbs (valL out)).length)) = x % y))))))))))))) ((limbs (y * 2 ^ s)).length) hV)))) (32 - bl ((limbs y).getD (((limbs y).length) - 1) 0)) rfl))))))⟩)
abbrev Q2 : Ctr Tryz.prog := FI.c Xh
abbrev Xq : FI := ⟨218, [.mag, .mag], [(.n 1099511627776), (.n 1099511627776)], fun _ => [], fun b z => (fun (x : Nat) (y : Nat) => .c (.one (.dt .mag (.n (max (b0 b).nb (b1 b).nb)) (Nat.gcd x y)))) z.1 z.2⟩
theorem Xr : Xq.OK Tryz.prog := mkF hmix 61 Tryz.func218 rfl rfl (by decide) [(209, .c Bo), (219, .c Q2), (220, .c wS), (259, .c of_c), (262, .c RR)] (fun _ => rfl) (fun _ => rfl) (fun _ _ => rfl) (fun (x : Nat) (y : Nat) b hx hp => qe (Jx (Bnds.h2 hx).1.mag (Bnds.h2 hx).2.mag) rfl) (fun (x : Nat) (y : Nat) hx hp => by
 have hx0 : lt2 x 1099511627776 := hx.1
 have hl0 : (limbs x).length ≤ 34359738369 := qf (Nat.le_of_lt hx0)
 have hx1 : lt2 y 1099511627776 := hx.2
 have hl1 : (limbs y).length ≤ 34359738369 := qf (Nat.le_of_lt hx1)
 exact ⟨.loop [.s 5 .mag (.n 1099511627776), .s 6 .mag (.n 1099511627776)] (fun ((a, b) : Nat × Nat) => Nat.gcd a b = Nat.gcd x y) (fun ((a, b) : Nat × Nat) => b) (fun ((a, b) : Nat × Nat) => .cond (.nil) (.cond (.nil) (.cond (.loop [.s 13 (.nat .u64) (.n 18446744073709551615), .s 14 (.nat .u64) (.n 18446744073709551615)] (fun ((u, v) : Nat × Nat) => Nat.gcd u v = Nat.gcd x y) (fun ((u, v) : Nat × Nat) => v) (fun ((u, v) : Nat × Nat) => .nil)) (.loop [.s 13 (.nat .u64) (.n 18446744073709551615), .s 14 (.nat .u64) (.n 18446744073709551615)] (fun ((u, v) : Nat × Nat) => Nat.gcd u v = Nat.gcd x y) (fun ((u, v) : Nat × Nat) => v) (fun ((u, v) : Nat × Nat) => .nil))))), kcast (by kernel_rfl) (I (rfl : Nat.gcd x y = Nat.gcd x y) (fun (a : Nat) (b : Nat) (hb1 : HB [.s 5 .mag (.n 1099511627776), .s 6 .mag (.n 1099511627776)] (a, b)) (hC : Nat.gcd a b = Nat.gcd x y) => And.intro (fun (h2 : 2 < (limbs b).length) => have hb0 := (show 0 < b from Nat.pos_of_ne_zero (fun e => by have := nl0.2 e; omega)); I (hb0 : 0 < b) (And.intro ((vH a b).trans hC : Nat.gcd b (a % b) = Nat.gcd x y) (Nat.mod_lt _ hb0 : a % b < b))) (fun (h3 : ¬ (2 < (limbs b).length)) => And.intro (fun (h4 : (limbs b).length = 0) => (by have e := nl0.1 (show (limbs b).length = 0 by omega); rw [e, Nat.gcd_zero_right] at hC; exact hC : a = Nat.gcd x y)) (fun (h5 : ¬ ((limbs b).length = 0)) => And.intro (fun (h6 : 2 < (limbs a).length) => have hb0 := (show 0 < b from Nat.pos_of_ne_zero (fun e => by have := nl0.2 e; omega)); I (hb0 : 0 < b) (I (by omega : (limbs b).length ≤ 2) (I (by first | omega | exact Nat.le_trans (jQ (Nat.le_of_lt (Nat.mod_lt a hb0))) (by omega) : (limbs (a % b)).length ≤ 2) (I (by first | exact hC | exact (vH a b).trans hC : Nat.gcd b (a % b) = Nat.gcd x y) (fun (u : Nat) (v : Nat) (hb7 : HB [.s 13 (.nat .u64) (.n 18446744073709551615), .s 14 (.nat .u64) (.n 18446744073709551615)] (u, v)) (hK : Nat.gcd u v = Nat.gcd x y) => have hv10 := (show u ≤ 18446744073709551615 from hb7.1); have hv11 := (show v ≤ 18446744073709551615 from hb7.2); And.intro (fun (h8 : v ≠ 0) => I (by omega : 0 < v) (And.intro ((vH u v).trans hK : Nat.gcd v (u % v) = Nat.gcd x y) (Nat.mod_lt _ (by omega) : u % v < v))) (fun (h9 : ¬ (v ≠ 0)) => (by rw [show v = 0 by omega, Nat.gcd_zero_right] at hK; exact hK : u = Nat.gcd x y))))))) (fun (h12 : ¬ (2 < (limbs a).length)) => I (by omega : (limbs a).length ≤ 2) (I (by first | omega | exact Nat.le_trans (jQ (Nat.le_of_lt (Nat.mod_lt a hb0))) (by omega) : (limbs b).length ≤ 2) (I (by first | exact hC | exact (vH a b).trans hC : Nat.gcd a b = Nat.gcd x y) (fun (u : Nat) (v : Nat) (hb13 : HB [.s 13 (.nat .u64) (.n 18446744073709551615), .s 14 (.nat .u64) (.n 18446744073709551615)] (u, v)) (hK : Nat.gcd u v = Nat.gcd x y) => have hv16 := (show u ≤ 18446744073709551615 from hb13.1); have hv17 := (show v ≤ 18446744073709551615 from hb13.2); And.intro (fun (h14 : v ≠ 0) => I (by omega : 0 < v) (And.intro ((vH u v).trans hK : Nat.gcd v (u % v) = Nat.gcd x y) (Nat.mod_lt _ (by omega) : u % v < v))) (fun (h15 : ¬ (v ≠ 0)) => (by rw [show v = 0 by omega, Nat.gcd_zero_right] at hK; exact hK : u = Nat.gcd x y))))))))))⟩)
abbrev gcd_c : Ctr Tryz.prog := FI.c Xr
abbrev VT : FI := ⟨206, [], [], fun _ => [], fun b z => .c (.one (.dt .mag (.n (1)) (1)))⟩
theorem VU : VT.OK Tryz.prog := mkF hmix 2 Tryz.func206 rfl rfl (by decide) [] (fun _ => rfl) (fun _ => rfl) (fun _ _ => rfl) (fun  b hx hp => qe (FC rfl) rfl) (fun  hx hp => by
 exact ⟨.h 1 0 (.mk (.im (.nat .u32) (.n 4294967295))) (.h 1 1 (.mag 1 1) (.nil)), kcast (by kernel_rfl) (I (Aq.symm : [1] = limbs 1) (I (FC rfl : lt2 1 1) ((Eq.refl 1))))⟩)
abbrev N5 : Ctr Tryz.prog := FI.c VU
abbrev SF : FI := ⟨205, [(.int .i64)], [(.n 9223372036854775807)], fun _ => [], fun b z => (fun (v : Int) => .c (.one (.dt .mag (.n (Nat.log2 (b0 b).nb + 1)) (v.natAbs)))) z⟩
theorem SG : SF.OK Tryz.prog := mkF hmix 12 Tryz.func205 rfl rfl (by decide) [(259, .c of_c)] (fun _ => rfl) (fun _ => rfl) (fun _ _ => rfl) (fun (v : Int) b hx hp => qe (zm (Bnds.h1 hx).int) rfl) (fun (v : Int) hx hp => by
 have hx0 : Int.natAbs v ≤ 9223372036854775807 := hx
 exact ⟨.cond (.dead) (.h 3 4 (.i (.n v.natAbs 9223372036854775807)) (.nil)), kcast (by kernel_rfl) (And.intro (fun (h1 : v = (-9223372036854775808)) => (by omega : False)) (fun (h2 : ¬ (v = (-9223372036854775808))) => I (by rw [show max v (-v) = ((v.natAbs : Nat) : Int) by omega]; exact zi (by omega) : IntKind.wrap .u64 (max v (-v)) = ((v.natAbs : Nat) : Int)) (I (by omega : v.natAbs ≤ 9223372036854775807) ((Eq.refl v.natAbs)))))⟩)
abbrev SE : Ctr Tryz.prog := FI.c SG
abbrev VC : FI := ⟨145, [.rat], [(.n 1099511627776)], fun _ => [], fun b z => (fun (x : Rat) => .c (.one (.dt .mag (.n ((b0 b).nb + 1)) (x.den)))) z⟩
theorem VD : VC.OK Tryz.prog := mkF hmix 10 Tryz.func145 rfl rfl (by decide) [(206, .c N5)] (fun _ => rfl) (fun _ => rfl) (fun _ _ => rfl) (fun (x : Rat) b hx hp => qe (B5 (Bnds.h1 hx).rat.2) rfl) (fun (x : Rat) hx hp => by
 have hx0 : Bnd .rat (.n 1099511627776) x := hx
 exact ⟨.cond (.nil) (.h 3 2 (.mag x.den 1099511627777) (.nil)), kcast (by kernel_rfl) (And.intro (fun (h1 : (denL x.den).length = 0) => ((A4 x.den_nz (by omega)).symm : 1 = x.den)) (fun (h2 : ¬ ((denL x.den).length = 0)) => I (Bs (by omega) : denL x.den = limbs x.den) (I (B5 hx0.2 : lt2 x.den 1099511627777) ((Eq.refl x.den)))))⟩)
abbrev EY : Ctr Tryz.prog := FI.c VD
abbrev VF : FI := ⟨216, [(.nat .u64), (.nat .u64)], [(.n 18446744073709551615), (.n 18446744073709551615)], fun _ => [], fun b z => (fun (n : Nat) (d : Nat) => .c (.one (.dt (.nat .u64) (.n (max (b0 b).nb (b1 b).nb)) (Nat.gcd n d)))) z.1 z.2⟩
theorem VG : VF.OK Tryz.prog := mkF hmix 12 Tryz.func216 rfl rfl (by decide) [] (fun _ => rfl) (fun _ => rfl) (fun _ _ => rfl) (fun (n : Nat) (d : Nat) b hx hp => qe (R6 (Bnds.h2 hx).1.nat (Bnds.h2 hx).2.nat) rfl) (fun (n : Nat) (d : Nat) hx hp => by
 have hx0 : n ≤ 18446744073709551615 := hx.1
 have hx1 : d ≤ 18446744073709551615 := hx.2
 exact ⟨.loop [.s 0 (.nat .u64) (.n 18446744073709551615), .s 1 (.nat .u64) (.n 18446744073709551615)] (fun ((u, v) : Nat × Nat) => Nat.gcd u v = Nat.gcd n d) (fun ((u, v) : Nat × Nat) => v) (fun ((u, v) : Nat × Nat) => .nil), kcast (by kernel_rfl) (I (rfl : Nat.gcd n d = Nat.gcd n d) (fun (u : Nat) (v : Nat) (hb1 : HB [.s 0 (.nat .u64) (.n 18446744073709551615), .s 1 (.nat .u64) (.n 18446744073709551615)] (u, v)) (hK : Nat.gcd u v = Nat.gcd n d) => have hv4 := (show u ≤ 18446744073709551615 from hb1.1); have hv5 := (show v ≤ 18446744073709551615 from hb1.2); And.intro (fun (h2 : v ≠ 0) => I (by omega : 0 < v) (And.intro ((vH u v).trans hK : Nat.gcd v (u % v) = Nat.gcd n d) (Nat.mod_lt _ (by omega) : u % v < v))) (fun (h3 : ¬ (v ≠ 0)) => (by rw [show v = 0 by omega, Nat.gcd_zero_right] at hK; exact hK : u = Nat.gcd n d))))⟩)
abbrev VE : Ctr Tryz.prog := FI.c VG
abbrev P6 : FV := ⟨217, false, (.nat .u32), (.n 4294967295), 1099511627776, [(.nat .u64)], [(.n 18446744073709551615)], fun l lo n cap z => (fun (v : Nat) => [2 ≤ n, lo + 2 ≤ l.length, v ≤ 18446744073709551615]) z, fun k b l lo n cap z => (fun (v : Nat) => .c (.one (.dt (.nat .i64) (.n 2) (nlw v)))) z, fun l lo n cap z => (fun (v : Nat) => putW l lo v) z⟩
theorem P7 : P6.OK Tryz.prog := mkSl hmix 17 Tryz.func217 rfl rfl (by decide) [] (fun _ => rfl) (fun _ _ _ _ _ => rfl) (fun _ _ _ _ _ _ _ => rfl) (fun _ _ _ _ _ _ => rfl) (fun (l : List Nat) (lo n cap : Nat) (v : Nat) k b hx hs hn (hm : n ≤ 1099511627776) hp => ⟨qe (HO v).2 rfl, OY (hp _ (List.mem_cons_of_mem _ (List.mem_cons_of_mem _ List.mem_cons_self))) hs⟩) (fun (l : List Nat) (lo n cap : Nat) (v : Nat) hs hx hn (hm : n ≤ 1099511627776) hp => by
 have hx0 : v ≤ 18446744073709551615 := hx
 have hp0 : 2 ≤ n := hp _ (List.mem_cons_self)
 have hp1 : lo + 2 ≤ l.length := hp _ (List.mem_cons_of_mem _ (List.mem_cons_self))
 have hp2 : v ≤ 18446744073709551615 := hp _ (List.mem_cons_of_mem _ (List.mem_cons_of_mem _ (List.mem_cons_self)))
 exact ⟨.nil, kcast (by kernel_rfl) (I (by omega : 0 < n) (I (by omega : lo + 0 < l.length) (And.intro (fun (h1 : v / 2 ^ 32 = 0) => And.intro (by rw [putW, if_pos (by assumption)] : l.set (lo + 0) (v % 4294967296) = putW l lo v) ((by rw [nlw, if_pos (by assumption)] : 1 = nlw v))) (fun (h2 : ¬ (v / 2 ^ 32 = 0)) => I (by omega : 1 < n) (I (by simp only [List.length_set]; omega : lo + 1 < (l.set (lo + 0) (v % 4294967296)).length) (And.intro (by rw [putW, if_neg (by assumption)] : (l.set (lo + 0) (v % 4294967296)).set (lo + 1) (v / 2 ^ 32) = putW l lo v) ((by rw [nlw, if_neg (by assumption)] : 2 = nlw v))))))))⟩)
abbrev P5 : CtrS Tryz.prog := FV.c P7
abbrev SU : FI := ⟨142, [.bool, (.nat .u64), (.nat .u64)], [.u, (.n 18446744073709551615), (.n 18446744073709551615)], fun z => (fun (neg : Bool) (n : Nat) (d : Nat) => [0 < d]) z.1 z.2.1 z.2.2, fun b z => (fun (neg : Bool) (n : Nat) (d : Nat) => .c (.agg [.dt .rat (.n (max (Nat.log2 (b1 b).nb + 1) (Nat.log2 (b2 b).nb + 1))) (sgQ neg n d)])) z.1 z.2.1 z.2.2⟩
theorem SV : SU.OK Tryz.prog := mkF hmix 50 Tryz.func142 rfl rfl (by decide) [(216, .c VE), (217, .s P5)] (fun _ => rfl) (fun _ => rfl) (fun _ _ => rfl) (fun (neg : Bool) (n : Nat) (d : Nat) b hx hp => ja (qw (q9 (Nat.le_max_left _ _) (zm (Bnds.h3 hx).2.1.nat)) (qz (q9 (Nat.le_max_right _ _) (zm (Bnds.h3 hx).2.2.nat))) (hp _ List.mem_cons_self))) (fun (neg : Bool) (n : Nat) (d : Nat) hx hp => by
 have hx1 : n ≤ 18446744073709551615 := hx.2.1
 have hx2 : d ≤ 18446744073709551615 := hx.2.2
 have hp0 : 0 < d := hp _ (List.mem_cons_self)
 exact ⟨.cond (.nil) ((fun (g : Nat) => (fun (n1 : Nat) => (fun (d1 : Nat) => .h 5 0 (.mk (.arr (.nat .u32) (.n 4294967295))) ((fun (a : Nat) => .cond ((fun (b : Nat) => .pre 11 (.frz 24 false []) (.h 11 0 (.rat (sgQ neg n d) 64) (.nil))) (a + (nlw d1))) (.pre 11 (.frz 24 false []) (.h 11 0 (.rat (sgQ neg n d) 64) (.nil)))) (nlw n1))) (d / g)) (n / g)) (Nat.gcd n d)), kcast (by kernel_rfl) (And.intro (fun (h1 : n = 0) => (by rw [show n = 0 by omega, BR] : 0 = sgQ neg n d)) (fun (h2 : ¬ (n = 0)) => (fun (g : Nat) (hg : g = Nat.gcd n d) => have hg0 := (show 0 < g from hg ▸ Nat.gcd_pos_of_pos_right _ hp0); I (by omega : 0 < g) (I (by omega : 0 < g) ((fun (n1 : Nat) (hn1 : n1 = n / g) => (fun (d1 : Nat) (hd1 : d1 = d / g) => have hn0 := (show 0 < n1 from by rw [hn1, hg]; exact Nat.div_pos (Nat.gcd_le_left _ (by omega)) (hg ▸ hg0)); have hd0 := (show 0 < d1 from by rw [hd1, hg]; exact Nat.div_pos (Nat.gcd_le_right _ (by omega)) (hg ▸ hg0)); have hn9 := (show n1 ≤ 18446744073709551615 from by rw [hn1]; exact Nat.le_trans (Nat.div_le_self _ _) hx1); have hd9 := (show d1 ≤ 18446744073709551615 from by rw [hd1]; exact Nat.le_trans (Nat.div_le_self _ _) hx2); I (by omega : 2 ≤ 4) (I (by simp : 0 + 2 ≤ (List.replicate 4 (0 : Nat)).length) (I (by omega : n1 ≤ 18446744073709551615) ((fun (a : Nat) (ha : a = nlw n1) => have ha1 := (show 1 ≤ a ∧ a ≤ 2 from by rw [ha]; exact HO n1); have hL := (show (putW (List.replicate 4 (0 : Nat)) 0 n1).length = 4 from I2 _ _ _); I (by omega : a ≤ 4) (I (by omega : a = a) (And.intro (fun (h3 : 1 < d1) => I (by omega : a ≤ 4) (I (by omega : a < 4) (I (by omega : 2 ≤ 4 - a) (I (by omega : a + 2 ≤ (putW (List.replicate 4 (0 : Nat)) 0 n1).length) (I (by omega : d1 ≤ 18446744073709551615) ((fun (b : Nat) (hb : b = a + (nlw d1)) => have hb1 := HO d1; have hL2 := (show (putW (putW (List.replicate 4 (0 : Nat)) 0 n1) a d1).length = 4 from (I2 _ _ _).trans hL); I (by omega : a < b) (I (by omega : b ≤ 4) (I (by omega : b = b) (I (by omega : a ≤ (putW (putW (List.replicate 4 (0 : Nat)) 0 n1) a d1).length) (I (by omega : a + (b - a) ≤ (putW (putW (List.replicate 4 (0 : Nat)) 0 n1) a d1).length) (I ((qZ (by omega) hp0).symm : neg = decide ((sgQ neg n d).num < 0)) (I (by rw [qS hp0, ← hg, ← hn1]; subst ha; first | exact Ig hn0 hn9 | exact JU hn0 hn9 : (putW (putW (List.replicate 4 (0 : Nat)) 0 n1) a d1).take a = limbs ((sgQ neg n d).num.natAbs)) (I (by rw [(qP hp0).2, ← hg, ← hd1, denL, if_neg (by omega)]; subst hb ha; exact ST hd0 hd9 : ((putW (putW (List.replicate 4 (0 : Nat)) 0 n1) a d1).drop a).take (b - a) = denL (sgQ neg n d).den) (I (by rw [qS hp0, ← hg, ← hn1]; exact Nat.lt_of_le_of_lt hn9 (by decide) : lt2 (sgQ neg n d).num.natAbs 64) (I (by rw [(qP hp0).2, ← hg, ← hd1]; exact Nat.le_trans hd9 (by decide) : le2 (sgQ neg n d).den 64) ((Eq.refl (sgQ neg n d))))))))))))) (a + (nlw d1)) rfl)))))) (fun (h4 : ¬ (1 < d1)) => I (by omega : a ≤ (putW (List.replicate 4 (0 : Nat)) 0 n1).length) (I ((qZ (by omega) hp0).symm : neg = decide ((sgQ neg n d).num < 0)) (I (by rw [qS hp0, ← hg, ← hn1]; subst ha; first | exact Ig hn0 hn9 | exact JU hn0 hn9 : (putW (List.replicate 4 (0 : Nat)) 0 n1).take a = limbs ((sgQ neg n d).num.natAbs)) (I (by rw [(qP hp0).2, ← hg, ← hd1]; omega : (sgQ neg n d).den = 1) (I (by rw [qS hp0, ← hg, ← hn1]; exact Nat.lt_of_le_of_lt hn9 (by decide) : lt2 (sgQ neg n d).num.natAbs 64) (I (by rw [(qP hp0).2, ← hg, ← hd1]; exact Nat.le_trans hd9 (by decide) : le2 (sgQ neg n d).den 64) ((Eq.refl (sgQ neg n d)))))))))))) (nlw n1) rfl)))) (d / g) rfl) (n / g) rfl))) (Nat.gcd n d) rfl))⟩)
abbrev Do : Ctr Tryz.prog := FI.c SV
abbrev RY : FI := ⟨141, [.rat], [(.n 1099511627776)], fun _ => [], fun b z => (fun (x : Rat) => .tup [.one (.dt (.nat .u64) (.n 4294967295) (pn x)), .one (.dt (.nat .u64) (.n 4294967295) (pd x)), .one (.dt .bool .u (pb x))]) z⟩
theorem RZ : RY.OK Tryz.prog := mkF hmix 30 Tryz.func141 rfl rfl (by decide) [(215, .c JQ)] (fun _ => rfl) (fun _ => rfl) (fun _ _ => rfl) (fun (x : Rat) b hx hp => qF (qe (EU x) rfl) (qF (qe (ES x) rfl) (qF (qe trivial rfl) jz))) (fun (x : Rat) hx hp => by
 exact ⟨.nil, kcast (by kernel_rfl) (And.intro (fun (h1 : 1 < (limbs x.num.natAbs).length) => And.intro ((Dg (by first | exact .inl (by assumption) | exact .inr (by assumption))).1 : 0 = pn x) (And.intro ((Dg (by first | exact .inl (by assumption) | exact .inr (by assumption))).2.1 : 0 = pd x) ((Dg (by first | exact .inl (by assumption) | exact .inr (by assumption))).2.2 : false = pb x))) (fun (h2 : ¬ (1 < (limbs x.num.natAbs).length)) => And.intro (fun (h3 : 1 < (denL x.den).length) => And.intro ((Dg (by first | exact .inl (by assumption) | exact .inr (by assumption))).1 : 0 = pn x) (And.intro ((Dg (by first | exact .inl (by assumption) | exact .inr (by assumption))).2.1 : 0 = pd x) ((Dg (by first | exact .inl (by assumption) | exact .inr (by assumption))).2.2 : false = pb x))) (fun (h4 : ¬ (1 < (denL x.den).length)) => have hs := p_sm (x := x) (by unfold bigQ; omega); And.intro (fun (h5 : (denL x.den).length = 1) => I (by omega : 0 < (denL x.den).length) (I (by omega : (limbs x.num.natAbs).length ≤ 2) (And.intro (hs.1 : x.num.natAbs = pn x) (And.intro (by have := hs.2.1; have := @LM x.den (by omega); omega : (denL x.den).getD 0 0 = pd x) (by rw [hs.2.2]; have := @LM x.den (by omega); have := x.den_nz; exact decide_eq_true (by omega) : decide ((denL x.den).getD 0 0 ≠ 0) = pb x))))) (fun (h6 : ¬ ((denL x.den).length = 1)) => I (by omega : (limbs x.num.natAbs).length ≤ 2) (And.intro (hs.1 : x.num.natAbs = pn x) (And.intro (by rw [← hs.2.1]; exact (A4 x.den_nz (by omega)).symm : 1 = pd x) (by rw [hs.2.2] : true = pb x)))))))⟩)
abbrev Di : Ctr Tryz.prog := FI.c RZ
abbrev P3 : FI := ⟨143, [.bool, .mag, .mag], [.u, (.n 1099511627776), (.n 1099511627776)], fun _ => [], fun b z => (fun (neg : Bool) (n : Nat) (d : Nat) => .c (.agg [.dt .rat (.n (max (b1 b).nb (b2 b).nb)) (sgQ neg n d)])) z.1 z.2.1 z.2.2⟩
theorem P4 : P3.OK Tryz.prog := mkF hmix 68 Tryz.func143 rfl rfl (by decide) [(142, .c Do), (212, .c add_c), (214, .c LB), (215, .c JQ), (218, .c gcd_c), (219, .c Q2)] (fun _ => rfl) (fun _ => rfl) (fun _ _ => rfl) (fun (neg : Bool) (n : Nat) (d : Nat) b hx hp => ja (E0 (q9 (Nat.le_max_left _ _) (Bnds.h3 hx).2.1.mag) (q9 (Nat.le_max_right _ _) (Bnds.h3 hx).2.2.mag))) (fun (neg : Bool) (n : Nat) (d : Nat) hx hp => by
 have hx1 : lt2 n 1099511627776 := hx.2.1
 have hl1 : (limbs n).length ≤ 34359738369 := qf (Nat.le_of_lt hx1)
 have hx2 : lt2 d 1099511627776 := hx.2.2
 have hl2 : (limbs d).length ≤ 34359738369 := qf (Nat.le_of_lt hx2)
 exact ⟨.cond (.nil) (.cond (.nil) (.cond (.cond (.nil) ((fun (g : Nat) => .cond (.cond (.cond (.h 12 3 (.rat (sgQ neg n d) 1099511627776) (.nil)) (.h 12 3 (.rat (sgQ neg n d) 1099511627776) (.nil))) (.h 12 3 (.rat (sgQ neg n d) 1099511627776) (.nil))) (.cond (.cond (.h 12 3 (.rat (sgQ neg n d) 1099511627776) (.nil)) (.h 12 3 (.rat (sgQ neg n d) 1099511627776) (.nil))) (.h 12 3 (.rat (sgQ neg n d) 1099511627776) (.nil)))) (Nat.gcd n d))) ((fun (g : Nat) => .cond (.cond (.cond (.h 12 3 (.rat (sgQ neg n d) 1099511627776) (.nil)) (.h 12 3 (.rat (sgQ neg n d) 1099511627776) (.nil))) (.h 12 3 (.rat (sgQ neg n d) 1099511627776) (.nil))) (.cond (.cond (.h 12 3 (.rat (sgQ neg n d) 1099511627776) (.nil)) (.h 12 3 (.rat (sgQ neg n d) 1099511627776) (.nil))) (.h 12 3 (.rat (sgQ neg n d) 1099511627776) (.nil)))) (Nat.gcd n d)))), kcast (by kernel_rfl) (And.intro (fun (h1 : bl n = 0) => (by first | rw [zN.1 (show bl n = 0 by omega), BR] | rw [zN.1 (show bl d = 0 by omega), Bb] : 0 = sgQ neg n d)) (fun (h2 : ¬ (bl n = 0)) => And.intro (fun (h3 : bl d = 0) => (by first | rw [zN.1 (show bl n = 0 by omega), BR] | rw [zN.1 (show bl d = 0 by omega), Bb] : 0 = sgQ neg n d)) (fun (h4 : ¬ (bl d = 0)) => have hn0 := (show 0 < n from Nat.pos_of_ne_zero (mt zN.2 (by omega))); have hd0 := (show 0 < d from Nat.pos_of_ne_zero (mt zN.2 (by omega))); And.intro (fun (h5 : (limbs n).length ≤ 2) => And.intro (fun (h6 : (limbs d).length ≤ 2) => I (by omega : (limbs n).length ≤ 2) (I (by omega : (limbs d).length ≤ 2) (I (by omega : 0 < d) ((Eq.refl (sgQ neg n d)))))) (fun (h7 : ¬ ((limbs d).length ≤ 2)) => (fun (g : Nat) (hg : g = Nat.gcd n d) => have hg0 := (show 0 < g from hg ▸ Nat.gcd_pos_of_pos_right _ hd0); And.intro (fun (h8 : 1 < bl g) => I (by omega : 0 < g) (I (by omega : 0 < g) (And.intro (fun (h9 : (limbs ((d / g) + 0)).length = 1) => I (by omega : 0 < (limbs ((d / g) + 0)).length) (And.intro (fun (h10 : (limbs ((d / g) + 0)).getD 0 0 = 1) => I ((qZ hn0 hd0).symm : neg = decide ((sgQ neg n d).num < 0)) (I (by rw [qS hd0, ← hg]; first | rfl | rw [hg1, Nat.div_one]; rfl : (n / g) + 0 = (sgQ neg n d).num.natAbs) (I (by rw [(qP hd0).2, ← hg]; first | exact v7 (by omega) (by omega) | (rw [hg1, Nat.div_one]; exact v7 (by omega) (by omega)) : (sgQ neg n d).den = 1) (I ((qw (p := 1099511627776) (q9 (by decide) hx1) (qz (q9 (by decide) hx2)) hd0).1 : lt2 (sgQ neg n d).num.natAbs 1099511627776) (I ((qw (p := 1099511627776) (q9 (by decide) hx1) (qz (q9 (by decide) hx2)) hd0).2 : le2 (sgQ neg n d).den 1099511627776) ((Eq.refl (sgQ neg n d)))))))) (fun (h11 : ¬ ((limbs ((d / g) + 0)).getD 0 0 = 1)) => I ((qZ hn0 hd0).symm : neg = decide ((sgQ neg n d).num < 0)) (I (by rw [qS hd0, ← hg]; first | rfl | rw [hg1, Nat.div_one]; rfl : (n / g) + 0 = (sgQ neg n d).num.natAbs) (I (jP (by rw [(qP hd0).2, ← hg]; first | rfl | rw [hg1, Nat.div_one]; rfl) (by omega) : limbs ((d / g) + 0) = denL (sgQ neg n d).den) (I ((qw (p := 1099511627776) (q9 (by decide) hx1) (qz (q9 (by decide) hx2)) hd0).1 : lt2 (sgQ neg n d).num.natAbs 1099511627776) (I ((qw (p := 1099511627776) (q9 (by decide) hx1) (qz (q9 (by decide) hx2)) hd0).2 : le2 (sgQ neg n d).den 1099511627776) ((Eq.refl (sgQ neg n d)))))))))) (fun (h12 : ¬ ((limbs ((d / g) + 0)).length = 1)) => I ((qZ hn0 hd0).symm : neg = decide ((sgQ neg n d).num < 0)) (I (by rw [qS hd0, ← hg]; first | rfl | rw [hg1, Nat.div_one]; rfl : (n / g) + 0 = (sgQ neg n d).num.natAbs) (I (jP (by rw [(qP hd0).2, ← hg]; first | rfl | rw [hg1, Nat.div_one]; rfl) (by omega) : limbs ((d / g) + 0) = denL (sgQ neg n d).den) (I ((qw (p := 1099511627776) (q9 (by decide) hx1) (qz (q9 (by decide) hx2)) hd0).1 : lt2 (sgQ neg n d).num.natAbs 1099511627776) (I ((qw (p := 1099511627776) (q9 (by decide) hx1) (qz (q9 (by decide) hx2)) hd0).2 : le2 (sgQ neg n d).den 1099511627776) ((Eq.refl (sgQ neg n d))))))))))) (fun (h13 : ¬ (1 < bl g)) => have hg1 := (LD hg0 (by omega) : g = 1); And.intro (fun (h14 : (limbs (d + 0)).length = 1) => I (by omega : 0 < (limbs (d + 0)).length) (And.intro (fun (h15 : (limbs (d + 0)).getD 0 0 = 1) => I ((qZ hn0 hd0).symm : neg = decide ((sgQ neg n d).num < 0)) (I (by rw [qS hd0, ← hg]; first | rfl | rw [hg1, Nat.div_one]; rfl : n + 0 = (sgQ neg n d).num.natAbs) (I (by rw [(qP hd0).2, ← hg]; first | exact v7 (by omega) (by omega) | (rw [hg1, Nat.div_one]; exact v7 (by omega) (by omega)) : (sgQ neg n d).den = 1) (I ((qw (p := 1099511627776) (q9 (by decide) hx1) (qz (q9 (by decide) hx2)) hd0).1 : lt2 (sgQ neg n d).num.natAbs 1099511627776) (I ((qw (p := 1099511627776) (q9 (by decide) hx1) (qz (q9 (by decide) hx2)) hd0).2 : le2 (sgQ neg n d).den 1099511627776) ((Eq.refl (sgQ neg n d)))))))) (fun (h16 : ¬ ((limbs (d + 0)).getD 0 0 = 1)) => I ((qZ hn0 hd0).symm : neg = decide ((sgQ neg n d).num < 0)) (I (by rw [qS hd0, ← hg]; first | rfl | rw [hg1, Nat.div_one]; rfl : n + 0 = (sgQ neg n d).num.natAbs) (I (jP (by rw [(qP hd0).2, ← hg]; first | rfl | rw [hg1, Nat.div_one]; rfl) (by omega) : limbs (d + 0) = denL (sgQ neg n d).den) (I ((qw (p := 1099511627776) (q9 (by decide) hx1) (qz (q9 (by decide) hx2)) hd0).1 : lt2 (sgQ neg n d).num.natAbs 1099511627776) (I ((qw (p := 1099511627776) (q9 (by decide) hx1) (qz (q9 (by decide) hx2)) hd0).2 : le2 (sgQ neg n d).den 1099511627776) ((Eq.refl (sgQ neg n d)))))))))) (fun (h17 : ¬ ((limbs (d + 0)).length = 1)) => I ((qZ hn0 hd0).symm : neg = decide ((sgQ neg n d).num < 0)) (I (by rw [qS hd0, ← hg]; first | rfl | rw [hg1, Nat.div_one]; rfl : n + 0 = (sgQ neg n d).num.natAbs) (I (jP (by rw [(qP hd0).2, ← hg]; first | rfl | rw [hg1, Nat.div_one]; rfl) (by omega) : limbs (d + 0) = denL (sgQ neg n d).den) (I ((qw (p := 1099511627776) (q9 (by decide) hx1) (qz (q9 (by decide) hx2)) hd0).1 : lt2 (sgQ neg n d).num.natAbs 1099511627776) (I ((qw (p := 1099511627776) (q9 (by decide) hx1) (qz (q9 (by decide) hx2)) hd0).2 : le2 (sgQ neg n d).den 1099511627776) ((Eq.refl (sgQ neg n d)))))))))) (Nat.gcd n d) rfl)) (fun (h18 : ¬ ((limbs n).length ≤ 2)) => (fun (g : Nat) (hg : g = Nat.gcd n d) => have hg0 := (show 0 < g from hg ▸ Nat.gcd_pos_of_pos_right _ hd0); And.intro (fun (h19 : 1 < bl g) => I (by omega : 0 < g) (I (by omega : 0 < g) (And.intro (fun (h20 : (limbs ((d / g) + 0)).length = 1) => I (by omega : 0 < (limbs ((d / g) + 0)).length) (And.intro (fun (h21 : (limbs ((d / g) + 0)).getD 0 0 = 1) => I ((qZ hn0 hd0).symm : neg = decide ((sgQ neg n d).num < 0)) (I (by rw [qS hd0, ← hg]; first | rfl | rw [hg1, Nat.div_one]; rfl : (n / g) + 0 = (sgQ neg n d).num.natAbs) (I (by rw [(qP hd0).2, ← hg]; first | exact v7 (by omega) (by omega) | (rw [hg1, Nat.div_one]; exact v7 (by omega) (by omega)) : (sgQ neg n d).den = 1) (I ((qw (p := 1099511627776) (q9 (by decide) hx1) (qz (q9 (by decide) hx2)) hd0).1 : lt2 (sgQ neg n d).num.natAbs 1099511627776) (I ((qw (p := 1099511627776) (q9 (by decide) hx1) (qz (q9 (by decide) hx2)) hd0).2 : le2 (sgQ neg n d).den 1099511627776) ((Eq.refl (sgQ neg n d)))))))) (fun (h22 : ¬ ((limbs ((d / g) + 0)).getD 0 0 = 1)) => I ((qZ hn0 hd0).symm : neg = decide ((sgQ neg n d).num < 0)) (I (by rw [qS hd0, ← hg]; first | rfl | rw [hg1, Nat.div_one]; rfl : (n / g) + 0 = (sgQ neg n d).num.natAbs) (I (jP (by rw [(qP hd0).2, ← hg]; first | rfl | rw [hg1, Nat.div_one]; rfl) (by omega) : limbs ((d / g) + 0) = denL (sgQ neg n d).den) (I ((qw (p := 1099511627776) (q9 (by decide) hx1) (qz (q9 (by decide) hx2)) hd0).1 : lt2 (sgQ neg n d).num.natAbs 1099511627776) (I ((qw (p := 1099511627776) (q9 (by decide) hx1) (qz (q9 (by decide) hx2)) hd0).2 : le2 (sgQ neg n d).den 1099511627776) ((Eq.refl (sgQ neg n d)))))))))) (fun (h23 : ¬ ((limbs ((d / g) + 0)).length = 1)) => I ((qZ hn0 hd0).symm : neg = decide ((sgQ neg n d).num < 0)) (I (by rw [qS hd0, ← hg]; first | rfl | rw [hg1, Nat.div_one]; rfl : (n / g) + 0 = (sgQ neg n d).num.natAbs) (I (jP (by rw [(qP hd0).2, ← hg]; first | rfl | rw [hg1, Nat.div_one]; rfl) (by omega) : limbs ((d / g) + 0) = denL (sgQ neg n d).den) (I ((qw (p := 1099511627776) (q9 (by decide) hx1) (qz (q9 (by decide) hx2)) hd0).1 : lt2 (sgQ neg n d).num.natAbs 1099511627776) (I ((qw (p := 1099511627776) (q9 (by decide) hx1) (qz (q9 (by decide) hx2)) hd0).2 : le2 (sgQ neg n d).den 1099511627776) ((Eq.refl (sgQ neg n d))))))))))) (fun (h24 : ¬ (1 < bl g)) => have hg1 := (LD hg0 (by omega) : g = 1); And.intro (fun (h25 : (limbs (d + 0)).length = 1) => I (by omega : 0 < (limbs (d + 0)).length) (And.intro (fun (h26 : (limbs (d + 0)).getD 0 0 = 1) => I ((qZ hn0 hd0).symm : neg = decide ((sgQ neg n d).num < 0)) (I (by rw [qS hd0, ← hg]; first | rfl | rw [hg1, Nat.div_one]; rfl : n + 0 = (sgQ neg n d).num.natAbs) (I (by rw [(qP hd0).2, ← hg]; first | exact v7 (by omega) (by omega) | (rw [hg1, Nat.div_one]; exact v7 (by omega) (by omega)) : (sgQ neg n d).den = 1) (I ((qw (p := 1099511627776) (q9 (by decide) hx1) (qz (q9 (by decide) hx2)) hd0).1 : lt2 (sgQ neg n d).num.natAbs 1099511627776) (I ((qw (p := 1099511627776) (q9 (by decide) hx1) (qz (q9 (by decide) hx2)) hd0).2 : le2 (sgQ neg n d).den 1099511627776) ((Eq.refl (sgQ neg n d)))))))) (fun (h27 : ¬ ((limbs (d + 0)).getD 0 0 = 1)) => I ((qZ hn0 hd0).symm : neg = decide ((sgQ neg n d).num < 0)) (I (by rw [qS hd0, ← hg]; first | rfl | rw [hg1, Nat.div_one]; rfl : n + 0 = (sgQ neg n d).num.natAbs) (I (jP (by rw [(qP hd0).2, ← hg]; first | rfl | rw [hg1, Nat.div_one]; rfl) (by omega) : limbs (d + 0) = denL (sgQ neg n d).den) (I ((qw (p := 1099511627776) (q9 (by decide) hx1) (qz (q9 (by decide) hx2)) hd0).1 : lt2 (sgQ neg n d).num.natAbs 1099511627776) (I ((qw (p := 1099511627776) (q9 (by decide) hx1) (qz (q9 (by decide) hx2)) hd0).2 : le2 (sgQ neg n d).den 1099511627776) ((Eq.refl (sgQ neg n d)))))))))) (fun (h28 : ¬ ((limbs (d + 0)).length = 1)) => I ((qZ hn0 hd0).symm : neg = decide ((sgQ neg n d).num < 0)) (I (by rw [qS hd0, ← hg]; first | rfl | rw [hg1, Nat.div_one]; rfl : n + 0 = (sgQ neg n d).num.natAbs) (I (jP (by rw [(qP hd0).2, ← hg]; first | rfl | rw [hg1, Nat.div_one]; rfl) (by omega) : limbs (d + 0) = denL (sgQ neg n d).den) (I ((qw (p := 1099511627776) (q9 (by decide) hx1) (qz (q9 (by decide) hx2)) hd0).1 : lt2 (sgQ neg n d).num.natAbs 1099511627776) (I ((qw (p := 1099511627776) (q9 (by decide) hx1) (qz (q9 (by decide) hx2)) hd0).2 : le2 (sgQ neg n d).den 1099511627776) ((Eq.refl (sgQ neg n d)))))))))) (Nat.gcd n d) rfl))))⟩)
abbrev BN : Ctr Tryz.prog := FI.c P4
abbrev Xl : FI := ⟨207, [(.sl (.nat .u32)), (.sl (.nat .u32))], [(.s 1099511627776 (.n 4294967295)), (.s 1099511627776 (.n 4294967295))], fun _ => [], fun b z => (fun (l : List Nat) (m : List Nat) => .c (.one (.dt .bool .u (decide (l = m))))) z.1 z.2⟩
theorem Xm : Xl.OK Tryz.prog := mkF hmix 26 Tryz.func207 rfl rfl (by decide) [] (fun _ => rfl) (fun _ => rfl) (fun _ _ => rfl) (fun (l : List Nat) (m : List Nat) b hx hp => qe trivial rfl) (fun (l : List Nat) (m : List Nat) hx hp => by
 have hl0 : l.length ≤ 1099511627776 := hx.1.1
 have hl1 : m.length ≤ 1099511627776 := hx.2.1
 exact ⟨.cond (.nil) (.loop [.s 13 (.nat .i64) (.n 1099511627776)] (fun (i : Nat) => i ≤ l.length ∧ l.take i = m.take i) (fun (i : Nat) => l.length - i) (fun (i : Nat) => .nil)), kcast (by kernel_rfl) (And.intro (fun (h1 : l.length ≠ m.length) => ((decide_eq_false (by first | exact (Fw (by omega) hC.2 (by omega)).2 (by omega) | exact fun e => absurd (congrArg List.length e) (by assumption))).symm : false = decide (l = m))) (fun (h2 : ¬ (l.length ≠ m.length)) => I (⟨Nat.zero_le _, rfl⟩ : 0 ≤ l.length ∧ l.take 0 = m.take 0) (fun (i : Nat) (hb3 : HB [.s 13 (.nat .i64) (.n 1099511627776)] i) (hC : i ≤ l.length ∧ l.take i = m.take i) => have hv8 := (show i ≤ 1099511627776 from hb3); And.intro (fun (h4 : i < l.length) => I (by omega : i < l.length) (I (by omega : i < m.length) (And.intro (fun (h5 : l.getD i 0 ≠ m.getD i 0) => ((decide_eq_false (by first | exact (Fw (by omega) hC.2 (by omega)).2 (by omega) | exact fun e => absurd (congrArg List.length e) (by assumption))).symm : false = decide (l = m))) (fun (h6 : ¬ (l.getD i 0 ≠ m.getD i 0)) => I (show (i + 1) ≤ 1099511627776 by omega : Bnd (.nat .i64) (.n 1099511627776) (i + 1)) (And.intro (⟨by omega, (Fw (by omega) hC.2 (by omega)).1 (by omega)⟩ : (i + 1) ≤ l.length ∧ l.take (i + 1) = m.take (i + 1)) (by omega : l.length - (i + 1) < l.length - i)))))) (fun (h7 : ¬ (i < l.length)) => ((decide_eq_true (by have := hC.2; rwa [List.take_of_length_le (by omega), List.take_of_length_le (by omega)] at this)).symm : true = decide (l = m))))))⟩)
abbrev Km : Ctr Tryz.prog := FI.c Xm
abbrev SC : FI := ⟨140, [.rat], [(.n 68719476736)], fun _ => [], fun b z => (fun (x : Rat) => .c (.one (.dt (.int .i64) (.n 1) (sgnQ x)))) z⟩
theorem SD : SC.OK Tryz.prog := mkF hmix 11 Tryz.func140 rfl rfl (by decide) [(214, .c LB)] (fun _ => rfl) (fun _ => rfl) (fun _ _ => rfl) (fun (x : Rat) b hx hp => qe (If x) rfl) (fun (x : Rat) hx hp => by
 exact ⟨.nil, kcast (by kernel_rfl) (And.intro (fun (h1 : bl x.num.natAbs = 0) => (by rw [sgnQ, if_pos (zN.1 (by omega))] : 0 = sgnQ x)) (fun (h2 : ¬ (bl x.num.natAbs = 0)) => And.intro (fun (h3 : x.num < 0) => (by rw [sgnQ, if_neg (fun e => absurd (zN.2 e) (by omega)), if_pos (by assumption)] : (-1) = sgnQ x)) (fun (h4 : ¬ (x.num < 0)) => (by rw [sgnQ, if_neg (fun e => absurd (zN.2 e) (by omega)), if_neg (by assumption)] : 1 = sgnQ x))))⟩)
abbrev JP : Ctr Tryz.prog := FI.c SD
abbrev VK : FI := ⟨132, [(.int .i64)], [(.n 9223372036854775807)], fun _ => [], fun b z => (fun (v : Int) => .c (.agg [.dt .rat (.n (Nat.log2 (b0 b).nb + 1)) ((v : Rat))])) z⟩
theorem VL : VK.OK Tryz.prog := mkF hmix 9 Tryz.func132 rfl rfl (by decide) [(143, .c BN), (205, .c SE), (206, .c N5)] (fun _ => rfl) (fun _ => rfl) (fun _ _ => rfl) (fun (v : Int) b hx hp => ja (wM (Bnds.h1 hx).int)) (fun (v : Int) hx hp => by
 exact ⟨.nil, kcast (by kernel_rfl) ((JS v : sgQ (decide (v < 0)) v.natAbs 1 = (v : Rat)))⟩)
abbrev N3 : Ctr Tryz.prog := FI.c VL
abbrev VR : FI := ⟨74, [.rat, .rat], [(.n 68719476736), (.n 68719476736)], fun _ => [], fun b z => (fun (x : Rat) (y : Rat) => .c (.agg [.dt .rat (.n ((b0 b).nb + (b1 b).nb)) (x * y)])) z.1 z.2⟩
theorem VS : VR.OK Tryz.prog := mkF hmix 64 Tryz.func74 rfl rfl (by decide) [(141, .c Di), (142, .c Do), (143, .c BN), (144, .c mul_c), (145, .c EY)] (fun _ => rfl) (fun _ => rfl) (fun _ _ => rfl) (fun (x : Rat) (y : Rat) b hx hp => ja (AP (Bnds.h2 hx).1 (Bnds.h2 hx).2)) (fun (x : Rat) (y : Rat) hx hp => by
 exact ⟨.nil, kcast (by kernel_rfl) (And.intro (fun (h1 : (limbs x.num.natAbs).length = 0) => (by first | rw [vM (nl0.1 (show (limbs x.num.natAbs).length = 0 by omega)), Rat.zero_mul] | rw [vM (nl0.1 (show (limbs y.num.natAbs).length = 0 by omega)), Rat.mul_zero] : 0 = x * y)) (fun (h2 : ¬ ((limbs x.num.natAbs).length = 0)) => And.intro (fun (h3 : (limbs y.num.natAbs).length = 0) => (by first | rw [vM (nl0.1 (show (limbs x.num.natAbs).length = 0 by omega)), Rat.zero_mul] | rw [vM (nl0.1 (show (limbs y.num.natAbs).length = 0 by omega)), Rat.mul_zero] : 0 = x * y)) (fun (h4 : ¬ ((limbs y.num.natAbs).length = 0)) => And.intro (fun (h5 : pb x = true) => And.intro (fun (h6 : pb y = true) => have hpx := Aw (x := x) (by assumption); have hpy := Aw (x := y) (by assumption); I (Nat.mul_pos hpx.2.2 hpy.2.2 : 0 < (pd x) * (pd y)) ((by first | exact zM x y | (rw [hpx.1, hpy.1, hpx.2.1, hpy.2.1]; exact zM x y) : sgQ (decide ((decide (x.num < 0)) ≠ (decide (y.num < 0)))) ((pn x) * (pn y)) ((pd x) * (pd y)) = x * y))) (fun (h7 : ¬ (pb y = true)) => (by first | exact zM x y | (rw [hpx.1, hpy.1, hpx.2.1, hpy.2.1]; exact zM x y) : sgQ (decide ((decide (x.num < 0)) ≠ (decide (y.num < 0)))) (x.num.natAbs * y.num.natAbs) (x.den * y.den) = x * y))) (fun (h8 : ¬ (pb x = true)) => (by first | exact zM x y | (rw [hpx.1, hpy.1, hpx.2.1, hpy.2.1]; exact zM x y) : sgQ (decide ((decide (x.num < 0)) ≠ (decide (y.num < 0)))) (x.num.natAbs * y.num.natAbs) (x.den * y.den) = x * y)))))⟩)
abbrev F1 : Ctr Tryz.prog := FI.c VS
def PQ : Array Value → Sem Value := fun args => do
 let (x, y, c) ← Extern.MathBitsCarry.three "Add64" args
 pure (Extern.MathBitsCarry.pair ((x + y + c) % Extern.MathBitsCarry.m64) ((x + y + c) / Extern.MathBitsCarry.m64))
theorem Od : Extern.findNext Tryz.f211 = none := by kernel_rfl
theorem QT : Extern.find Tryz.f211 = some PQ := by kernel_rfl
theorem N6 (a b : Nat) (w : World) : (PQ #[.int .u64 (a : Int), .int .u64 (b : Int), .int .u64 0]).run Tryz.prog w = .ok (Extern.MathBitsCarry.pair ((a + b) % 18446744073709551616) ((a + b) / 18446744073709551616)) w := by
 kernel_rfl
theorem OI {fx x y z : Operand} {ts : Array TypeId} {ty : TypeId} {a b : Nat} :
    OpOk Tryz.prog (.call { callee := .value fx, args := #[x, y, z], argTypes := ts }) ty [(fx, vFun 211), (x, vInt .u64 a), (y, vInt .u64 b), (z, vInt .u64 0)] []
      (.tup [.one (.val (.int .u64 (((a + b) % 18446744073709551616 : Nat) : Int))), .one (.val (.int .u64 (((a + b) / 18446744073709551616 : Nat) : Int)))]) [] :=
  qt fun ac w H β hins _ _ => by
    have hf := (hins (fx, vFun 211) (by simp)).1
    have hx := (hins (x, vInt .u64 a) (by simp)).1
    have hy := (hins (y, vInt .u64 b) (by simp)).1
    have hz := (hins (z, vInt .u64 0) (by simp)).1
    simp only at hf hx hy hz
    refine ⟨Extern.MathBitsCarry.pair ((a + b) % 18446744073709551616) ((a + b) / 18446744073709551616), ?_, fun _ _ _ _ => ?_⟩
    · exact ⟨_, rfl, ⟨⟨rfl, rfl⟩, ⟨⟨rfl, rfl⟩, trivial⟩⟩⟩
    · have hb : Tryz.f211.body.isNone = true := by kernel_rfl
      have hn : (Tryz.f211.name == "runtime.NumGoroutine") = false := by kernel_rfl
      simp only [execOp, resolve, hf, Deferred.ofValue, Sem.run_bind, Sem.run_pure, Result.andThen_ok, invoke, callFunc, run_program, Tryz.func211, hb, hn, Bool.false_eq_true, if_false, if_true, Od, QT]
      rw [show (#[] ++ Array.map ac.eval #[x, y, z] ++ #[] : Array Value) = #[.int .u64 (a : Int), .int .u64 (b : Int), .int .u64 0] by simp [hx, hy, hz]]
      rw [show Sem.run Tryz.prog (mark (Mark.extern 211)) w = .ok () w from rfl]
      simp only [Result.andThen_ok, N6]
abbrev Vw : FI := ⟨138, [.rat, .rat, .bool], [(.n 68719476736), (.n 68719476736), .u], fun _ => [], fun b z => (fun (x : Rat) (y : Rat) (s : Bool) => .c (.agg [.dt .rat (.n ((b0 b).nb + (b1 b).nb + 1)) (x + yQ s y)])) z.1 z.2.1 z.2.2⟩
theorem Vx : Vw.OK Tryz.prog := mkF hmix 152 Tryz.func138 rfl rfl (by decide) [(141, .c Di), (142, .c Do), (143, .c BN), (144, .c mul_c), (145, .c EY), (207, .c Km), (212, .c add_c), (213, .c XO)] (fun _ => rfl) (fun _ => rfl) (fun _ _ => rfl) (fun (x : Rat) (y : Rat) (s : Bool) b hx hp => ja (Fl (Bnds.h3 hx).1 (Bnds.h3 hx).2.1)) (fun (x : Rat) (y : Rat) (s : Bool) hx hp => by
 exact ⟨.cond (.cond (.h 6 2 (.any [.c (.one (.vl (.func (.func 211) #[] #[]))), .c (.one (.dt (.nat .u64) (.n 18446744065119617025) ((pn x) * (pd y)))), .c (.one (.dt (.nat .u64) (.n 18446744065119617025) ((pn y) * (pd x)))), .c (.one (.kn .u64 0))] (.tup [(.one (.dt (.nat .u64) (.n 18446744073709551615) ((((pn x) * (pd y)) + ((pn y) * (pd x))) % 18446744073709551616))), (.one (.dt (.nat .u64) (.n 1) (cy ((pn x) * (pd y)) ((pn y) * (pd x)))))]) (qF (qe (Nat.le_of_lt_succ (Nat.mod_lt _ (by decide))) rfl) (qF (qe (Xf (Nat.mul_le_mul (EU x) (ES y)) (Nat.mul_le_mul (EU y) (ES x))) rfl) jz)) (Op.call { callee := .value (.func 211), args := #[.tmp 43, .tmp 44, .const (.int .u64 0)], argTypes := #[161, 161, 161] }) (fun _ => OI (a := (pn x) * (pd y)) (b := (pn y) * (pd x)))) (.cond (.cond (.nil) (.cond (.cond (.h 10 4 (.i .sub) (.nil)) (.cond (.h 12 3 (.i .sub) (.nil)) (.nil))) (.cond (.h 12 3 (.i .sub) (.nil)) (.nil)))) (.cond (.cond (.h 10 4 (.i .sub) (.nil)) (.cond (.h 12 3 (.i .sub) (.nil)) (.nil))) (.cond (.h 12 3 (.i .sub) (.nil)) (.nil))))) (.nil)) (.nil), kcast (by kernel_rfl) (And.intro (fun (h1 : pb x = true) => And.intro (fun (h2 : pb y = true) => have hpx := Aw (x := x) (by assumption); have hpy := Aw (x := y) (by assumption); have hx8 := EU x; have hx9 := ES x; have hy8 := EU y; have hy9 := ES y; have hm1 := Nat.mul_le_mul hx8 hy9; have hm2 := Nat.mul_le_mul hy8 hx9; have hpp := Nat.mul_pos hpx.2.2 hpy.2.2; I (rfl : ([.c (.one (.vl (.func (.func 211) #[] #[]))), .c (.one (.dt (.nat .u64) (.n 18446744065119617025) ((pn x) * (pd y)))), .c (.one (.dt (.nat .u64) (.n 18446744065119617025) ((pn y) * (pd x)))), .c (.one (.kn .u64 0))] : List WV) = [.c (.one (.vl (.func (.func 211) #[] #[]))), .c (.one (.dt (.nat .u64) (.n 18446744065119617025) ((pn x) * (pd y)))), .c (.one (.dt (.nat .u64) (.n 18446744065119617025) ((pn y) * (pd x)))), .c (.one (.kn .u64 0))]) (I (rfl : (Op.call { callee := .value (.func 211), args := #[.tmp 43, .tmp 44, .const (.int .u64 0)], argTypes := #[161, 161, 161] } : Op) = Op.call { callee := .value (.func 211), args := #[.tmp 43, .tmp 44, .const (.int .u64 0)], argTypes := #[161, 161, 161] }) (And.intro (fun (h3 : (decide (x.num < 0)) = s) => And.intro (fun (h4 : cy ((pn x) * (pd y)) ((pn y) * (pd x)) = 0) => I (hpp : 0 < (pd x) * (pd y)) (((by first | contradiction | skip; rw [hpx.1, hpx.2.1, hpy.1, hpy.2.1] at *; first | (rw [A3 (by assumption)]; exact qE (by assumption)) | exact qC (by assumption) (by assumption) | exact qD (by assumption) (by omega)) : sgQ s ((((pn x) * (pd y)) + ((pn y) * (pd x))) % 18446744073709551616) ((pd x) * (pd y)) = x + yQ s y))) (fun (h5 : ¬ (cy ((pn x) * (pd y)) ((pn y) * (pd x)) = 0)) => And.intro (fun (h6 : (decide (x.num < 0)) ≠ s) => And.intro (fun (h7 : (pn y) * (pd x) ≤ (pn x) * (pd y)) => I (by first | omega | contradiction : (pn y) * (pd x) ≤ (pn x) * (pd y)) (I (hpp : 0 < (pd x) * (pd y)) (((by first | contradiction | skip; rw [hpx.1, hpx.2.1, hpy.1, hpy.2.1] at *; first | (rw [A3 (by assumption)]; exact qE (by assumption)) | exact qC (by assumption) (by assumption) | exact qD (by assumption) (by omega)) : sgQ (decide (x.num < 0)) (((pn x) * (pd y)) - ((pn y) * (pd x))) ((pd x) * (pd y)) = x + yQ s y)))) (fun (h8 : ¬ ((pn y) * (pd x) ≤ (pn x) * (pd y))) => And.intro (fun (h9 : (decide (x.num < 0)) ≠ s) => I (by first | omega | contradiction : (pn x) * (pd y) ≤ (pn y) * (pd x)) (I (hpp : 0 < (pd x) * (pd y)) (((by first | contradiction | skip; rw [hpx.1, hpx.2.1, hpy.1, hpy.2.1] at *; first | (rw [A3 (by assumption)]; exact qE (by assumption)) | exact qC (by assumption) (by assumption) | exact qD (by assumption) (by omega)) : sgQ s (((pn y) * (pd x)) - ((pn x) * (pd y))) ((pd x) * (pd y)) = x + yQ s y)))) (fun (h10 : ¬ ((decide (x.num < 0)) ≠ s)) => And.intro (fun (h11 : (!(decide ((denL x.den) = (denL y.den)))) = true) => And.intro (fun (h12 : (decide (x.num < 0)) = s) => ((by first | contradiction | exact qK hde (by assumption) | exact qI hde (by assumption) (q8.1 (by assumption)) | exact qJ hde (by assumption) (Nat.le_of_lt (Nat.lt_of_not_le (mt q8.2 (by assumption)))) | exact qE (by assumption) | exact qC (by assumption) (q8.1 (by assumption)) | exact qD (by assumption) (Nat.le_of_lt (Nat.lt_of_not_le (mt q8.2 (by assumption))))) : sgQ s ((x.num.natAbs * y.den) + (y.num.natAbs * x.den)) (x.den * y.den) = x + yQ s y)) (fun (h13 : ¬ ((decide (x.num < 0)) = s)) => And.intro (fun (h14 : subC (x.num.natAbs * y.den) (y.num.natAbs * x.den) = 0) => ((by first | contradiction | exact qK hde (by assumption) | exact qI hde (by assumption) (q8.1 (by assumption)) | exact qJ hde (by assumption) (Nat.le_of_lt (Nat.lt_of_not_le (mt q8.2 (by assumption)))) | exact qE (by assumption) | exact qC (by assumption) (q8.1 (by assumption)) | exact qD (by assumption) (Nat.le_of_lt (Nat.lt_of_not_le (mt q8.2 (by assumption))))) : sgQ (decide (x.num < 0)) ((x.num.natAbs * y.den) - (y.num.natAbs * x.den)) (x.den * y.den) = x + yQ s y)) (fun (h15 : ¬ (subC (x.num.natAbs * y.den) (y.num.natAbs * x.den) = 0)) => ((by first | contradiction | exact qK hde (by assumption) | exact qI hde (by assumption) (q8.1 (by assumption)) | exact qJ hde (by assumption) (Nat.le_of_lt (Nat.lt_of_not_le (mt q8.2 (by assumption)))) | exact qE (by assumption) | exact qC (by assumption) (q8.1 (by assumption)) | exact qD (by assumption) (Nat.le_of_lt (Nat.lt_of_not_le (mt q8.2 (by assumption))))) : sgQ s ((y.num.natAbs * x.den) - (x.num.natAbs * y.den)) (x.den * y.den) = x + yQ s y)))) (fun (h16 : ¬ ((!(decide ((denL x.den) = (denL y.den)))) = true)) => have hde := (show x.den = y.den from vF x.den_nz y.den_nz (by have h := h16; simpa using h)); And.intro (fun (h17 : (decide (x.num < 0)) = s) => ((by first | contradiction | exact qK hde (by assumption) | exact qI hde (by assumption) (q8.1 (by assumption)) | exact qJ hde (by assumption) (Nat.le_of_lt (Nat.lt_of_not_le (mt q8.2 (by assumption)))) | exact qE (by assumption) | exact qC (by assumption) (q8.1 (by assumption)) | exact qD (by assumption) (Nat.le_of_lt (Nat.lt_of_not_le (mt q8.2 (by assumption))))) : sgQ s (x.num.natAbs + y.num.natAbs) x.den = x + yQ s y)) (fun (h18 : ¬ ((decide (x.num < 0)) = s)) => And.intro (fun (h19 : subC x.num.natAbs y.num.natAbs = 0) => ((by first | contradiction | exact qK hde (by assumption) | exact qI hde (by assumption) (q8.1 (by assumption)) | exact qJ hde (by assumption) (Nat.le_of_lt (Nat.lt_of_not_le (mt q8.2 (by assumption)))) | exact qE (by assumption) | exact qC (by assumption) (q8.1 (by assumption)) | exact qD (by assumption) (Nat.le_of_lt (Nat.lt_of_not_le (mt q8.2 (by assumption))))) : sgQ (decide (x.num < 0)) (x.num.natAbs - y.num.natAbs) x.den = x + yQ s y)) (fun (h20 : ¬ (subC x.num.natAbs y.num.natAbs = 0)) => ((by first | contradiction | exact qK hde (by assumption) | exact qI hde (by assumption) (q8.1 (by assumption)) | exact qJ hde (by assumption) (Nat.le_of_lt (Nat.lt_of_not_le (mt q8.2 (by assumption)))) | exact qE (by assumption) | exact qC (by assumption) (q8.1 (by assumption)) | exact qD (by assumption) (Nat.le_of_lt (Nat.lt_of_not_le (mt q8.2 (by assumption))))) : sgQ s (y.num.natAbs - x.num.natAbs) x.den = x + yQ s y))))))) (fun (h21 : ¬ ((decide (x.num < 0)) ≠ s)) => And.intro (fun (h22 : (decide (x.num < 0)) ≠ s) => I (by first | omega | contradiction : (pn x) * (pd y) ≤ (pn y) * (pd x)) (I (hpp : 0 < (pd x) * (pd y)) (((by first | contradiction | skip; rw [hpx.1, hpx.2.1, hpy.1, hpy.2.1] at *; first | (rw [A3 (by assumption)]; exact qE (by assumption)) | exact qC (by assumption) (by assumption) | exact qD (by assumption) (by omega)) : sgQ s (((pn y) * (pd x)) - ((pn x) * (pd y))) ((pd x) * (pd y)) = x + yQ s y)))) (fun (h23 : ¬ ((decide (x.num < 0)) ≠ s)) => And.intro (fun (h24 : (!(decide ((denL x.den) = (denL y.den)))) = true) => And.intro (fun (h25 : (decide (x.num < 0)) = s) => ((by first | contradiction | exact qK hde (by assumption) | exact qI hde (by assumption) (q8.1 (by assumption)) | exact qJ hde (by assumption) (Nat.le_of_lt (Nat.lt_of_not_le (mt q8.2 (by assumption)))) | exact qE (by assumption) | exact qC (by assumption) (q8.1 (by assumption)) | exact qD (by assumption) (Nat.le_of_lt (Nat.lt_of_not_le (mt q8.2 (by assumption))))) : sgQ s ((x.num.natAbs * y.den) + (y.num.natAbs * x.den)) (x.den * y.den) = x + yQ s y)) (fun (h26 : ¬ ((decide (x.num < 0)) = s)) => And.intro (fun (h27 : subC (x.num.natAbs * y.den) (y.num.natAbs * x.den) = 0) => ((by first | contradiction | exact qK hde (by assumption) | exact qI hde (by assumption) (q8.1 (by assumption)) | exact qJ hde (by assumption) (Nat.le_of_lt (Nat.lt_of_not_le (mt q8.2 (by assumption)))) | exact qE (by assumption) | exact qC (by assumption) (q8.1 (by assumption)) | exact qD (by assumption) (Nat.le_of_lt (Nat.lt_of_not_le (mt q8.2 (by assumption))))) : sgQ (decide (x.num < 0)) ((x.num.natAbs * y.den) - (y.num.natAbs * x.den)) (x.den * y.den) = x + yQ s y)) (fun (h28 : ¬ (subC (x.num.natAbs * y.den) (y.num.natAbs * x.den) = 0)) => ((by first | contradiction | exact qK hde (by assumption) | exact qI hde (by assumption) (q8.1 (by assumption)) | exact qJ hde (by assumption) (Nat.le_of_lt (Nat.lt_of_not_le (mt q8.2 (by assumption)))) | exact qE (by assumption) | exact qC (by assumption) (q8.1 (by assumption)) | exact qD (by assumption) (Nat.le_of_lt (Nat.lt_of_not_le (mt q8.2 (by assumption))))) : sgQ s ((y.num.natAbs * x.den) - (x.num.natAbs * y.den)) (x.den * y.den) = x + yQ s y)))) (fun (h29 : ¬ ((!(decide ((denL x.den) = (denL y.den)))) = true)) => have hde := (show x.den = y.den from vF x.den_nz y.den_nz (by have h := h29; simpa using h)); And.intro (fun (h30 : (decide (x.num < 0)) = s) => ((by first | contradiction | exact qK hde (by assumption) | exact qI hde (by assumption) (q8.1 (by assumption)) | exact qJ hde (by assumption) (Nat.le_of_lt (Nat.lt_of_not_le (mt q8.2 (by assumption)))) | exact qE (by assumption) | exact qC (by assumption) (q8.1 (by assumption)) | exact qD (by assumption) (Nat.le_of_lt (Nat.lt_of_not_le (mt q8.2 (by assumption))))) : sgQ s (x.num.natAbs + y.num.natAbs) x.den = x + yQ s y)) (fun (h31 : ¬ ((decide (x.num < 0)) = s)) => And.intro (fun (h32 : subC x.num.natAbs y.num.natAbs = 0) => ((by first | contradiction | exact qK hde (by assumption) | exact qI hde (by assumption) (q8.1 (by assumption)) | exact qJ hde (by assumption) (Nat.le_of_lt (Nat.lt_of_not_le (mt q8.2 (by assumption)))) | exact qE (by assumption) | exact qC (by assumption) (q8.1 (by assumption)) | exact qD (by assumption) (Nat.le_of_lt (Nat.lt_of_not_le (mt q8.2 (by assumption))))) : sgQ (decide (x.num < 0)) (x.num.natAbs - y.num.natAbs) x.den = x + yQ s y)) (fun (h33 : ¬ (subC x.num.natAbs y.num.natAbs = 0)) => ((by first | contradiction | exact qK hde (by assumption) | exact qI hde (by assumption) (q8.1 (by assumption)) | exact qJ hde (by assumption) (Nat.le_of_lt (Nat.lt_of_not_le (mt q8.2 (by assumption)))) | exact qE (by assumption) | exact qC (by assumption) (q8.1 (by assumption)) | exact qD (by assumption) (Nat.le_of_lt (Nat.lt_of_not_le (mt q8.2 (by assumption))))) : sgQ s (y.num.natAbs - x.num.natAbs) x.den = x + yQ s y)))))))) (fun (h34 : ¬ ((decide (x.num < 0)) = s)) => And.intro (fun (h35 : (decide (x.num < 0)) ≠ s) => And.intro (fun (h36 : (pn y) * (pd x) ≤ (pn x) * (pd y)) => I (by first | omega | contradiction : (pn y) * (pd x) ≤ (pn x) * (pd y)) (I (hpp : 0 < (pd x) * (pd y)) (((by first | contradiction | skip; rw [hpx.1, hpx.2.1, hpy.1, hpy.2.1] at *; first | (rw [A3 (by assumption)]; exact qE (by assumption)) | exact qC (by assumption) (by assumption) | exact qD (by assumption) (by omega)) : sgQ (decide (x.num < 0)) (((pn x) * (pd y)) - ((pn y) * (pd x))) ((pd x) * (pd y)) = x + yQ s y)))) (fun (h37 : ¬ ((pn y) * (pd x) ≤ (pn x) * (pd y))) => And.intro (fun (h38 : (decide (x.num < 0)) ≠ s) => I (by first | omega | contradiction : (pn x) * (pd y) ≤ (pn y) * (pd x)) (I (hpp : 0 < (pd x) * (pd y)) (((by first | contradiction | skip; rw [hpx.1, hpx.2.1, hpy.1, hpy.2.1] at *; first | (rw [A3 (by assumption)]; exact qE (by assumption)) | exact qC (by assumption) (by assumption) | exact qD (by assumption) (by omega)) : sgQ s (((pn y) * (pd x)) - ((pn x) * (pd y))) ((pd x) * (pd y)) = x + yQ s y)))) (fun (h39 : ¬ ((decide (x.num < 0)) ≠ s)) => And.intro (fun (h40 : (!(decide ((denL x.den) = (denL y.den)))) = true) => And.intro (fun (h41 : (decide (x.num < 0)) = s) => ((by first | contradiction | exact qK hde (by assumption) | exact qI hde (by assumption) (q8.1 (by assumption)) | exact qJ hde (by assumption) (Nat.le_of_lt (Nat.lt_of_not_le (mt q8.2 (by assumption)))) | exact qE (by assumption) | exact qC (by assumption) (q8.1 (by assumption)) | exact qD (by assumption) (Nat.le_of_lt (Nat.lt_of_not_le (mt q8.2 (by assumption))))) : sgQ s ((x.num.natAbs * y.den) + (y.num.natAbs * x.den)) (x.den * y.den) = x + yQ s y)) (fun (h42 : ¬ ((decide (x.num < 0)) = s)) => And.intro (fun (h43 : subC (x.num.natAbs * y.den) (y.num.natAbs * x.den) = 0) => ((by first | contradiction | exact qK hde (by assumption) | exact qI hde (by assumption) (q8.1 (by assumption)) | exact qJ hde (by assumption) (Nat.le_of_lt (Nat.lt_of_not_le (mt q8.2 (by assumption)))) | exact qE (by assumption) | exact qC (by assumption) (q8.1 (by assumption)) | exact qD (by assumption) (Nat.le_of_lt (Nat.lt_of_not_le (mt q8.2 (by assumption))))) : sgQ (decide (x.num < 0)) ((x.num.natAbs * y.den) - (y.num.natAbs * x.den)) (x.den * y.den) = x + yQ s y)) (fun (h44 : ¬ (subC (x.num.natAbs * y.den) (y.num.natAbs * x.den) = 0)) => ((by first | contradiction | exact qK hde (by assumption) | exact qI hde (by assumption) (q8.1 (by assumption)) | exact qJ hde (by assumption) (Nat.le_of_lt (Nat.lt_of_not_le (mt q8.2 (by assumption)))) | exact qE (by assumption) | exact qC (by assumption) (q8.1 (by assumption)) | exact qD (by assumption) (Nat.le_of_lt (Nat.lt_of_not_le (mt q8.2 (by assumption))))) : sgQ s ((y.num.natAbs * x.den) - (x.num.natAbs * y.den)) (x.den * y.den) = x + yQ s y)))) (fun (h45 : ¬ ((!(decide ((denL x.den) = (denL y.den)))) = true)) => have hde := (show x.den = y.den from vF x.den_nz y.den_nz (by have h := h45; simpa using h)); And.intro (fun (h46 : (decide (x.num < 0)) = s) => ((by first | contradiction | exact qK hde (by assumption) | exact qI hde (by assumption) (q8.1 (by assumption)) | exact qJ hde (by assumption) (Nat.le_of_lt (Nat.lt_of_not_le (mt q8.2 (by assumption)))) | exact qE (by assumption) | exact qC (by assumption) (q8.1 (by assumption)) | exact qD (by assumption) (Nat.le_of_lt (Nat.lt_of_not_le (mt q8.2 (by assumption))))) : sgQ s (x.num.natAbs + y.num.natAbs) x.den = x + yQ s y)) (fun (h47 : ¬ ((decide (x.num < 0)) = s)) => And.intro (fun (h48 : subC x.num.natAbs y.num.natAbs = 0) => ((by first | contradiction | exact qK hde (by assumption) | exact qI hde (by assumption) (q8.1 (by assumption)) | exact qJ hde (by assumption) (Nat.le_of_lt (Nat.lt_of_not_le (mt q8.2 (by assumption)))) | exact qE (by assumption) | exact qC (by assumption) (q8.1 (by assumption)) | exact qD (by assumption) (Nat.le_of_lt (Nat.lt_of_not_le (mt q8.2 (by assumption))))) : sgQ (decide (x.num < 0)) (x.num.natAbs - y.num.natAbs) x.den = x + yQ s y)) (fun (h49 : ¬ (subC x.num.natAbs y.num.natAbs = 0)) => ((by first | contradiction | exact qK hde (by assumption) | exact qI hde (by assumption) (q8.1 (by assumption)) | exact qJ hde (by assumption) (Nat.le_of_lt (Nat.lt_of_not_le (mt q8.2 (by assumption)))) | exact qE (by assumption) | exact qC (by assumption) (q8.1 (by assumption)) | exact qD (by assumption) (Nat.le_of_lt (Nat.lt_of_not_le (mt q8.2 (by assumption))))) : sgQ s (y.num.natAbs - x.num.natAbs) x.den = x + yQ s y))))))) (fun (h50 : ¬ ((decide (x.num < 0)) ≠ s)) => And.intro (fun (h51 : (decide (x.num < 0)) ≠ s) => I (by first | omega | contradiction : (pn x) * (pd y) ≤ (pn y) * (pd x)) (I (hpp : 0 < (pd x) * (pd y)) (((by first | contradiction | skip; rw [hpx.1, hpx.2.1, hpy.1, hpy.2.1] at *; first | (rw [A3 (by assumption)]; exact qE (by assumption)) | exact qC (by assumption) (by assumption) | exact qD (by assumption) (by omega)) : sgQ s (((pn y) * (pd x)) - ((pn x) * (pd y))) ((pd x) * (pd y)) = x + yQ s y)))) (fun (h52 : ¬ ((decide (x.num < 0)) ≠ s)) => And.intro (fun (h53 : (!(decide ((denL x.den) = (denL y.den)))) = true) => And.intro (fun (h54 : (decide (x.num < 0)) = s) => ((by first | contradiction | exact qK hde (by assumption) | exact qI hde (by assumption) (q8.1 (by assumption)) | exact qJ hde (by assumption) (Nat.le_of_lt (Nat.lt_of_not_le (mt q8.2 (by assumption)))) | exact qE (by assumption) | exact qC (by assumption) (q8.1 (by assumption)) | exact qD (by assumption) (Nat.le_of_lt (Nat.lt_of_not_le (mt q8.2 (by assumption))))) : sgQ s ((x.num.natAbs * y.den) + (y.num.natAbs * x.den)) (x.den * y.den) = x + yQ s y)) (fun (h55 : ¬ ((decide (x.num < 0)) = s)) => And.intro (fun (h56 : subC (x.num.natAbs * y.den) (y.num.natAbs * x.den) = 0) => ((by first | contradiction | exact qK hde (by assumption) | exact qI hde (by assumption) (q8.1 (by assumption)) | exact qJ hde (by assumption) (Nat.le_of_lt (Nat.lt_of_not_le (mt q8.2 (by assumption)))) | exact qE (by assumption) | exact qC (by assumption) (q8.1 (by assumption)) | exact qD (by assumption) (Nat.le_of_lt (Nat.lt_of_not_le (mt q8.2 (by assumption))))) : sgQ (decide (x.num < 0)) ((x.num.natAbs * y.den) - (y.num.natAbs * x.den)) (x.den * y.den) = x + yQ s y)) (fun (h57 : ¬ (subC (x.num.natAbs * y.den) (y.num.natAbs * x.den) = 0)) => ((by first | contradiction | exact qK hde (by assumption) | exact qI hde (by assumption) (q8.1 (by assumption)) | exact qJ hde (by assumption) (Nat.le_of_lt (Nat.lt_of_not_le (mt q8.2 (by assumption)))) | exact qE (by assumption) | exact qC (by assumption) (q8.1 (by assumption)) | exact qD (by assumption) (Nat.le_of_lt (Nat.lt_of_not_le (mt q8.2 (by assumption))))) : sgQ s ((y.num.natAbs * x.den) - (x.num.natAbs * y.den)) (x.den * y.den) = x + yQ s y)))) (fun (h58 : ¬ ((!(decide ((denL x.den) = (denL y.den)))) = true)) => have hde := (show x.den = y.den from vF x.den_nz y.den_nz (by have h := h58; simpa using h)); And.intro (fun (h59 : (decide (x.num < 0)) = s) => ((by first | contradiction | exact qK hde (by assumption) | exact qI hde (by assumption) (q8.1 (by assumption)) | exact qJ hde (by assumption) (Nat.le_of_lt (Nat.lt_of_not_le (mt q8.2 (by assumption)))) | exact qE (by assumption) | exact qC (by assumption) (q8.1 (by assumption)) | exact qD (by assumption) (Nat.le_of_lt (Nat.lt_of_not_le (mt q8.2 (by assumption))))) : sgQ s (x.num.natAbs + y.num.natAbs) x.den = x + yQ s y)) (fun (h60 : ¬ ((decide (x.num < 0)) = s)) => And.intro (fun (h61 : subC x.num.natAbs y.num.natAbs = 0) => ((by first | contradiction | exact qK hde (by assumption) | exact qI hde (by assumption) (q8.1 (by assumption)) | exact qJ hde (by assumption) (Nat.le_of_lt (Nat.lt_of_not_le (mt q8.2 (by assumption)))) | exact qE (by assumption) | exact qC (by assumption) (q8.1 (by assumption)) | exact qD (by assumption) (Nat.le_of_lt (Nat.lt_of_not_le (mt q8.2 (by assumption))))) : sgQ (decide (x.num < 0)) (x.num.natAbs - y.num.natAbs) x.den = x + yQ s y)) (fun (h62 : ¬ (subC x.num.natAbs y.num.natAbs = 0)) => ((by first | contradiction | exact qK hde (by assumption) | exact qI hde (by assumption) (q8.1 (by assumption)) | exact qJ hde (by assumption) (Nat.le_of_lt (Nat.lt_of_not_le (mt q8.2 (by assumption)))) | exact qE (by assumption) | exact qC (by assumption) (q8.1 (by assumption)) | exact qD (by assumption) (Nat.le_of_lt (Nat.lt_of_not_le (mt q8.2 (by assumption))))) : sgQ s (y.num.natAbs - x.num.natAbs) x.den = x + yQ s y)))))))))) (fun (h63 : ¬ (pb y = true)) => And.intro (fun (h64 : (!(decide ((denL x.den) = (denL y.den)))) = true) => And.intro (fun (h65 : (decide (x.num < 0)) = s) => ((by first | contradiction | exact qK hde (by assumption) | exact qI hde (by assumption) (q8.1 (by assumption)) | exact qJ hde (by assumption) (Nat.le_of_lt (Nat.lt_of_not_le (mt q8.2 (by assumption)))) | exact qE (by assumption) | exact qC (by assumption) (q8.1 (by assumption)) | exact qD (by assumption) (Nat.le_of_lt (Nat.lt_of_not_le (mt q8.2 (by assumption))))) : sgQ s ((x.num.natAbs * y.den) + (y.num.natAbs * x.den)) (x.den * y.den) = x + yQ s y)) (fun (h66 : ¬ ((decide (x.num < 0)) = s)) => And.intro (fun (h67 : subC (x.num.natAbs * y.den) (y.num.natAbs * x.den) = 0) => ((by first | contradiction | exact qK hde (by assumption) | exact qI hde (by assumption) (q8.1 (by assumption)) | exact qJ hde (by assumption) (Nat.le_of_lt (Nat.lt_of_not_le (mt q8.2 (by assumption)))) | exact qE (by assumption) | exact qC (by assumption) (q8.1 (by assumption)) | exact qD (by assumption) (Nat.le_of_lt (Nat.lt_of_not_le (mt q8.2 (by assumption))))) : sgQ (decide (x.num < 0)) ((x.num.natAbs * y.den) - (y.num.natAbs * x.den)) (x.den * y.den) = x + yQ s y)) (fun (h68 : ¬ (subC (x.num.natAbs * y.den) (y.num.natAbs * x.den) = 0)) => ((by first | contradiction | exact qK hde (by assumption) | exact qI hde (by assumption) (q8.1 (by assumption)) | exact qJ hde (by assumption) (Nat.le_of_lt (Nat.lt_of_not_le (mt q8.2 (by assumption)))) | exact qE (by assumption) | exact qC (by assumption) (q8.1 (by assumption)) | exact qD (by assumption) (Nat.le_of_lt (Nat.lt_of_not_le (mt q8.2 (by assumption))))) : sgQ s ((y.num.natAbs * x.den) - (x.num.natAbs * y.den)) (x.den * y.den) = x + yQ s y)))) (fun (h69 : ¬ ((!(decide ((denL x.den) = (denL y.den)))) = true)) => have hde := (show x.den = y.den from vF x.den_nz y.den_nz (by have h := h69; simpa using h)); And.intro (fun (h70 : (decide (x.num < 0)) = s) => ((by first | contradiction | exact qK hde (by assumption) | exact qI hde (by assumption) (q8.1 (by assumption)) | exact qJ hde (by assumption) (Nat.le_of_lt (Nat.lt_of_not_le (mt q8.2 (by assumption)))) | exact qE (by assumption) | exact qC (by assumption) (q8.1 (by assumption)) | exact qD (by assumption) (Nat.le_of_lt (Nat.lt_of_not_le (mt q8.2 (by assumption))))) : sgQ s (x.num.natAbs + y.num.natAbs) x.den = x + yQ s y)) (fun (h71 : ¬ ((decide (x.num < 0)) = s)) => And.intro (fun (h72 : subC x.num.natAbs y.num.natAbs = 0) => ((by first | contradiction | exact qK hde (by assumption) | exact qI hde (by assumption) (q8.1 (by assumption)) | exact qJ hde (by assumption) (Nat.le_of_lt (Nat.lt_of_not_le (mt q8.2 (by assumption)))) | exact qE (by assumption) | exact qC (by assumption) (q8.1 (by assumption)) | exact qD (by assumption) (Nat.le_of_lt (Nat.lt_of_not_le (mt q8.2 (by assumption))))) : sgQ (decide (x.num < 0)) (x.num.natAbs - y.num.natAbs) x.den = x + yQ s y)) (fun (h73 : ¬ (subC x.num.natAbs y.num.natAbs = 0)) => ((by first | contradiction | exact qK hde (by assumption) | exact qI hde (by assumption) (q8.1 (by assumption)) | exact qJ hde (by assumption) (Nat.le_of_lt (Nat.lt_of_not_le (mt q8.2 (by assumption)))) | exact qE (by assumption) | exact qC (by assumption) (q8.1 (by assumption)) | exact qD (by assumption) (Nat.le_of_lt (Nat.lt_of_not_le (mt q8.2 (by assumption))))) : sgQ s (y.num.natAbs - x.num.natAbs) x.den = x + yQ s y)))))) (fun (h74 : ¬ (pb x = true)) => And.intro (fun (h75 : (!(decide ((denL x.den) = (denL y.den)))) = true) => And.intro (fun (h76 : (decide (x.num < 0)) = s) => ((by first | contradiction | exact qK hde (by assumption) | exact qI hde (by assumption) (q8.1 (by assumption)) | exact qJ hde (by assumption) (Nat.le_of_lt (Nat.lt_of_not_le (mt q8.2 (by assumption)))) | exact qE (by assumption) | exact qC (by assumption) (q8.1 (by assumption)) | exact qD (by assumption) (Nat.le_of_lt (Nat.lt_of_not_le (mt q8.2 (by assumption))))) : sgQ s ((x.num.natAbs * y.den) + (y.num.natAbs * x.den)) (x.den * y.den) = x + yQ s y)) (fun (h77 : ¬ ((decide (x.num < 0)) = s)) => And.intro (fun (h78 : subC (x.num.natAbs * y.den) (y.num.natAbs * x.den) = 0) => ((by first | contradiction | exact qK hde (by assumption) | exact qI hde (by assumption) (q8.1 (by assumption)) | exact qJ hde (by assumption) (Nat.le_of_lt (Nat.lt_of_not_le (mt q8.2 (by assumption)))) | exact qE (by assumption) | exact qC (by assumption) (q8.1 (by assumption)) | exact qD (by assumption) (Nat.le_of_lt (Nat.lt_of_not_le (mt q8.2 (by assumption))))) : sgQ (decide (x.num < 0)) ((x.num.natAbs * y.den) - (y.num.natAbs * x.den)) (x.den * y.den) = x + yQ s y)) (fun (h79 : ¬ (subC (x.num.natAbs * y.den) (y.num.natAbs * x.den) = 0)) => ((by first | contradiction | exact qK hde (by assumption) | exact qI hde (by assumption) (q8.1 (by assumption)) | exact qJ hde (by assumption) (Nat.le_of_lt (Nat.lt_of_not_le (mt q8.2 (by assumption)))) | exact qE (by assumption) | exact qC (by assumption) (q8.1 (by assumption)) | exact qD (by assumption) (Nat.le_of_lt (Nat.lt_of_not_le (mt q8.2 (by assumption))))) : sgQ s ((y.num.natAbs * x.den) - (x.num.natAbs * y.den)) (x.den * y.den) = x + yQ s y)))) (fun (h80 : ¬ ((!(decide ((denL x.den) = (denL y.den)))) = true)) => have hde := (show x.den = y.den from vF x.den_nz y.den_nz (by have h := h80; simpa using h)); And.intro (fun (h81 : (decide (x.num < 0)) = s) => ((by first | contradiction | exact qK hde (by assumption) | exact qI hde (by assumption) (q8.1 (by assumption)) | exact qJ hde (by assumption) (Nat.le_of_lt (Nat.lt_of_not_le (mt q8.2 (by assumption)))) | exact qE (by assumption) | exact qC (by assumption) (q8.1 (by assumption)) | exact qD (by assumption) (Nat.le_of_lt (Nat.lt_of_not_le (mt q8.2 (by assumption))))) : sgQ s (x.num.natAbs + y.num.natAbs) x.den = x + yQ s y)) (fun (h82 : ¬ ((decide (x.num < 0)) = s)) => And.intro (fun (h83 : subC x.num.natAbs y.num.natAbs = 0) => ((by first | contradiction | exact qK hde (by assumption) | exact qI hde (by assumption) (q8.1 (by assumption)) | exact qJ hde (by assumption) (Nat.le_of_lt (Nat.lt_of_not_le (mt q8.2 (by assumption)))) | exact qE (by assumption) | exact qC (by assumption) (q8.1 (by assumption)) | exact qD (by assumption) (Nat.le_of_lt (Nat.lt_of_not_le (mt q8.2 (by assumption))))) : sgQ (decide (x.num < 0)) (x.num.natAbs - y.num.natAbs) x.den = x + yQ s y)) (fun (h84 : ¬ (subC x.num.natAbs y.num.natAbs = 0)) => ((by first | contradiction | exact qK hde (by assumption) | exact qI hde (by assumption) (q8.1 (by assumption)) | exact qJ hde (by assumption) (Nat.le_of_lt (Nat.lt_of_not_le (mt q8.2 (by assumption)))) | exact qE (by assumption) | exact qC (by assumption) (q8.1 (by assumption)) | exact qD (by assumption) (Nat.le_of_lt (Nat.lt_of_not_le (mt q8.2 (by assumption))))) : sgQ s (y.num.natAbs - x.num.natAbs) x.den = x + yQ s y))))))⟩)
abbrev MS : Ctr Tryz.prog := FI.c Vx
abbrev Se : FI := ⟨139, [.rat, .rat], [(.n 68719476736), (.n 68719476736)], fun _ => [], fun b z => (fun (x : Rat) (y : Rat) => .c (.agg [.dt .rat (.n ((b0 b).nb + (b1 b).nb + 1)) (x + y)])) z.1 z.2⟩
theorem Sf : Se.OK Tryz.prog := mkF hmix 10 Tryz.func139 rfl rfl (by decide) [(138, .c MS)] (fun _ => rfl) (fun _ => rfl) (fun _ _ => rfl) (fun (x : Rat) (y : Rat) b hx hp => ja (DE (Bnds.h2 hx).1 (Bnds.h2 hx).2)) (fun (x : Rat) (y : Rat) hx hp => by
 exact ⟨.nil, kcast (by kernel_rfl) ((by rw [Bh] : x + yQ (decide (y.num < 0)) y = x + y))⟩)
abbrev JL : Ctr Tryz.prog := FI.c Sf
abbrev VX : FI := ⟨71, [.rat, .rat], [(.n 68719476736), (.n 68719476736)], fun _ => [], fun b z => (fun (x : Rat) (y : Rat) => .c (.agg [.dt .rat (.n ((b0 b).nb + (b1 b).nb + 1)) (x - y)])) z.1 z.2⟩
theorem VY : VX.OK Tryz.prog := mkF hmix 11 Tryz.func71 rfl rfl (by decide) [(138, .c MS)] (fun _ => rfl) (fun _ => rfl) (fun _ _ => rfl) (fun (x : Rat) (y : Rat) b hx hp => ja (E2 (Bnds.h2 hx).1 (Bnds.h2 hx).2)) (fun (x : Rat) (y : Rat) hx hp => by
 exact ⟨.nil, kcast (by kernel_rfl) ((by rw [show decide (¬ (y.num < 0)) = !decide (y.num < 0) from decide_not, NM, Rat.sub_eq_add_neg] : x + yQ (decide (¬ (y.num < 0))) y = x - y))⟩)
abbrev F2 : Ctr Tryz.prog := FI.c VY
abbrev MW : FI := ⟨134, [.rat], [(.n 1099511627776)], fun _ => [], fun b z => (fun (x : Rat) => .c (.agg [.dt .rat (b0 b) x])) z⟩
theorem MX : MW.OK Tryz.prog := mkF hmix 12 Tryz.func134 rfl rfl (by decide) [(209, .c Bo)] (fun _ => rfl) (fun _ => rfl) (fun _ _ => rfl) (fun (x : Rat) b hx hp => ja (Bnds.h1 hx)) (fun (x : Rat) hx hp => by
 have hx0 : Bnd .rat (.n 1099511627776) x := hx
 exact ⟨.h 1 7 (.c A1) (.h 1 8 (.rat x 1099511627776) (.nil)), kcast (by kernel_rfl) (I (Eq.refl (decide (x.num < 0))) (I (Eq.refl x.num.natAbs) (I (Eq.refl (denL x.den)) (I (hx0.1 : lt2 x.num.natAbs 1099511627776) (I (hx0.2 : le2 x.den 1099511627776) ((Eq.refl x)))))))⟩)
abbrev CD : Ctr Tryz.prog := FI.c MX
abbrev VV : FI := ⟨73, [.rat, .rat], [(.n 68719476736), (.n 68719476736)], fun _ => [], fun b z => (fun (x : Rat) (y : Rat) => .tup [.agg [.dt .rat (.n ((b0 b).nb + (b1 b).nb)) (x / y)], .one (.dt (.int .i64) (.n 3) (quoC y))]) z.1 z.2⟩
theorem VW : VV.OK Tryz.prog := mkF hmix 58 Tryz.func73 rfl rfl (by decide) [(140, .c JP), (141, .c Di), (142, .c Do), (143, .c BN), (144, .c mul_c), (145, .c EY)] (fun _ => rfl) (fun _ => rfl) (fun _ _ => rfl) (fun (x : Rat) (y : Rat) b hx hp => qF (ja (FN (Bnds.h2 hx).1 (Bnds.h2 hx).2)) (qF (qe (MR y) rfl) jz)) (fun (x : Rat) (y : Rat) hx hp => by
 exact ⟨.nil, kcast (by kernel_rfl) (And.intro (fun (h1 : sgnQ y = 0) => And.intro (Q9 (Ie.1 (by assumption)) : 0 = x / y) ((if_pos (Ie.1 (by assumption))).symm : 3 = quoC y)) (fun (h2 : ¬ (sgnQ y = 0)) => have hy0 := mt Ie.2 (by assumption); And.intro (fun (h3 : pb x = true) => And.intro (fun (h4 : pb y = true) => have hpx := Aw (x := x) (by assumption); have hpy := Aw (x := y) (by assumption); I (Nat.mul_pos hpx.2.2 (hpy.1 ▸ Nat.pos_of_ne_zero hy0) : 0 < (pd x) * (pn y)) (And.intro (by first | exact zS hy0 | (rw [hpx.1, hpy.1, hpx.2.1, hpy.2.1]; exact zS hy0) : sgQ (decide ((decide (x.num < 0)) ≠ (decide (y.num < 0)))) ((pn x) * (pd y)) ((pd x) * (pn y)) = x / y) ((if_neg hy0).symm : 0 = quoC y))) (fun (h5 : ¬ (pb y = true)) => And.intro (by first | exact zS hy0 | (rw [hpx.1, hpy.1, hpx.2.1, hpy.2.1]; exact zS hy0) : sgQ (decide ((decide (x.num < 0)) ≠ (decide (y.num < 0)))) (x.num.natAbs * y.den) (x.den * y.num.natAbs) = x / y) ((if_neg hy0).symm : 0 = quoC y))) (fun (h6 : ¬ (pb x = true)) => And.intro (by first | exact zS hy0 | (rw [hpx.1, hpy.1, hpx.2.1, hpy.2.1]; exact zS hy0) : sgQ (decide ((decide (x.num < 0)) ≠ (decide (y.num < 0)))) (x.num.natAbs * y.den) (x.den * y.num.natAbs) = x / y) ((if_neg hy0).symm : 0 = quoC y))))⟩)
abbrev I7 : Ctr Tryz.prog := FI.c VW
abbrev VA : FI := ⟨133, [.rat, .rat], [(.n 68719476736), (.n 68719476736)], fun _ => [], fun b z => (fun (x : Rat) (y : Rat) => .c (.one (.dt (.int .i64) (.n 1) (cmpQ x y)))) z.1 z.2⟩
theorem VB : VA.OK Tryz.prog := mkF hmix 80 Tryz.func133 rfl rfl (by decide) [(140, .c JP), (141, .c Di), (144, .c mul_c), (145, .c EY), (207, .c Km), (208, .c Kk)] (fun _ => rfl) (fun _ => rfl) (fun _ _ => rfl) (fun (x : Rat) (y : Rat) b hx hp => qe (zZ x y) rfl) (fun (x : Rat) (y : Rat) hx hp => by
 exact ⟨.nil, kcast (by kernel_rfl) (And.intro (fun (h1 : sgnQ x ≠ sgnQ y) => And.intro (fun (h2 : sgnQ x < sgnQ y) => (by first | exact ((qL (by assumption)).1 (by assumption)).symm | exact ((qL (by assumption)).2 (by assumption)).symm | (rw [jl hs (by assumption)]; first | exact qm hde | exact congrArg Neg.neg (qm hde) | rfl | (rw [qX hpx hpy]; unfold cmpN; split <;> (try split) <;> first | rfl | omega)) | (rw [jm hs (by assumption)]; first | exact qm hde | exact congrArg Neg.neg (qm hde) | rfl | (rw [qX hpx hpy]; unfold cmpN; split <;> (try split) <;> first | rfl | omega)) : (-1) = cmpQ x y)) (fun (h3 : ¬ (sgnQ x < sgnQ y)) => (by first | exact ((qL (by assumption)).1 (by assumption)).symm | exact ((qL (by assumption)).2 (by assumption)).symm | (rw [jl hs (by assumption)]; first | exact qm hde | exact congrArg Neg.neg (qm hde) | rfl | (rw [qX hpx hpy]; unfold cmpN; split <;> (try split) <;> first | rfl | omega)) | (rw [jm hs (by assumption)]; first | exact qm hde | exact congrArg Neg.neg (qm hde) | rfl | (rw [qX hpx hpy]; unfold cmpN; split <;> (try split) <;> first | rfl | omega)) : 1 = cmpQ x y))) (fun (h4 : ¬ (sgnQ x ≠ sgnQ y)) => have hs := (show sgnQ x = sgnQ y by omega); And.intro (fun (h5 : decide ((denL x.den) = (denL y.den)) = true) => have hde := (show x.den = y.den from vF x.den_nz y.den_nz (by have h := h5; simpa using h)); And.intro (fun (h6 : x.num < 0) => (by first | exact ((qL (by assumption)).1 (by assumption)).symm | exact ((qL (by assumption)).2 (by assumption)).symm | (rw [jl hs (by assumption)]; first | exact qm hde | exact congrArg Neg.neg (qm hde) | rfl | (rw [qX hpx hpy]; unfold cmpN; split <;> (try split) <;> first | rfl | omega)) | (rw [jm hs (by assumption)]; first | exact qm hde | exact congrArg Neg.neg (qm hde) | rfl | (rw [qX hpx hpy]; unfold cmpN; split <;> (try split) <;> first | rfl | omega)) : -(cmpN x.num.natAbs y.num.natAbs) = cmpQ x y)) (fun (h7 : ¬ (x.num < 0)) => (by first | exact ((qL (by assumption)).1 (by assumption)).symm | exact ((qL (by assumption)).2 (by assumption)).symm | (rw [jl hs (by assumption)]; first | exact qm hde | exact congrArg Neg.neg (qm hde) | rfl | (rw [qX hpx hpy]; unfold cmpN; split <;> (try split) <;> first | rfl | omega)) | (rw [jm hs (by assumption)]; first | exact qm hde | exact congrArg Neg.neg (qm hde) | rfl | (rw [qX hpx hpy]; unfold cmpN; split <;> (try split) <;> first | rfl | omega)) : cmpN x.num.natAbs y.num.natAbs = cmpQ x y))) (fun (h8 : ¬ (decide ((denL x.den) = (denL y.den)) = true)) => And.intro (fun (h9 : pb x = true) => And.intro (fun (h10 : pb y = true) => have hpx := Aw (x := x) (by assumption); have hpy := Aw (x := y) (by assumption); And.intro (fun (h11 : (pn x) * (pd y) < (pn y) * (pd x)) => And.intro (fun (h12 : x.num < 0) => (by first | exact ((qL (by assumption)).1 (by assumption)).symm | exact ((qL (by assumption)).2 (by assumption)).symm | (rw [jl hs (by assumption)]; first | exact qm hde | exact congrArg Neg.neg (qm hde) | rfl | (rw [qX hpx hpy]; unfold cmpN; split <;> (try split) <;> first | rfl | omega)) | (rw [jm hs (by assumption)]; first | exact qm hde | exact congrArg Neg.neg (qm hde) | rfl | (rw [qX hpx hpy]; unfold cmpN; split <;> (try split) <;> first | rfl | omega)) : 1 = cmpQ x y)) (fun (h13 : ¬ (x.num < 0)) => (by first | exact ((qL (by assumption)).1 (by assumption)).symm | exact ((qL (by assumption)).2 (by assumption)).symm | (rw [jl hs (by assumption)]; first | exact qm hde | exact congrArg Neg.neg (qm hde) | rfl | (rw [qX hpx hpy]; unfold cmpN; split <;> (try split) <;> first | rfl | omega)) | (rw [jm hs (by assumption)]; first | exact qm hde | exact congrArg Neg.neg (qm hde) | rfl | (rw [qX hpx hpy]; unfold cmpN; split <;> (try split) <;> first | rfl | omega)) : (-1) = cmpQ x y))) (fun (h14 : ¬ ((pn x) * (pd y) < (pn y) * (pd x))) => And.intro (fun (h15 : (pn y) * (pd x) < (pn x) * (pd y)) => And.intro (fun (h16 : x.num < 0) => (by first | exact ((qL (by assumption)).1 (by assumption)).symm | exact ((qL (by assumption)).2 (by assumption)).symm | (rw [jl hs (by assumption)]; first | exact qm hde | exact congrArg Neg.neg (qm hde) | rfl | (rw [qX hpx hpy]; unfold cmpN; split <;> (try split) <;> first | rfl | omega)) | (rw [jm hs (by assumption)]; first | exact qm hde | exact congrArg Neg.neg (qm hde) | rfl | (rw [qX hpx hpy]; unfold cmpN; split <;> (try split) <;> first | rfl | omega)) : (-1) = cmpQ x y)) (fun (h17 : ¬ (x.num < 0)) => (by first | exact ((qL (by assumption)).1 (by assumption)).symm | exact ((qL (by assumption)).2 (by assumption)).symm | (rw [jl hs (by assumption)]; first | exact qm hde | exact congrArg Neg.neg (qm hde) | rfl | (rw [qX hpx hpy]; unfold cmpN; split <;> (try split) <;> first | rfl | omega)) | (rw [jm hs (by assumption)]; first | exact qm hde | exact congrArg Neg.neg (qm hde) | rfl | (rw [qX hpx hpy]; unfold cmpN; split <;> (try split) <;> first | rfl | omega)) : 1 = cmpQ x y))) (fun (h18 : ¬ ((pn y) * (pd x) < (pn x) * (pd y))) => And.intro (fun (h19 : x.num < 0) => (by first | exact ((qL (by assumption)).1 (by assumption)).symm | exact ((qL (by assumption)).2 (by assumption)).symm | (rw [jl hs (by assumption)]; first | exact qm hde | exact congrArg Neg.neg (qm hde) | rfl | (rw [qX hpx hpy]; unfold cmpN; split <;> (try split) <;> first | rfl | omega)) | (rw [jm hs (by assumption)]; first | exact qm hde | exact congrArg Neg.neg (qm hde) | rfl | (rw [qX hpx hpy]; unfold cmpN; split <;> (try split) <;> first | rfl | omega)) : 0 = cmpQ x y)) (fun (h20 : ¬ (x.num < 0)) => (by first | exact ((qL (by assumption)).1 (by assumption)).symm | exact ((qL (by assumption)).2 (by assumption)).symm | (rw [jl hs (by assumption)]; first | exact qm hde | exact congrArg Neg.neg (qm hde) | rfl | (rw [qX hpx hpy]; unfold cmpN; split <;> (try split) <;> first | rfl | omega)) | (rw [jm hs (by assumption)]; first | exact qm hde | exact congrArg Neg.neg (qm hde) | rfl | (rw [qX hpx hpy]; unfold cmpN; split <;> (try split) <;> first | rfl | omega)) : 0 = cmpQ x y))))) (fun (h21 : ¬ (pb y = true)) => And.intro (fun (h22 : x.num < 0) => (by first | exact ((qL (by assumption)).1 (by assumption)).symm | exact ((qL (by assumption)).2 (by assumption)).symm | (rw [jl hs (by assumption)]; first | exact qm hde | exact congrArg Neg.neg (qm hde) | rfl | (rw [qX hpx hpy]; unfold cmpN; split <;> (try split) <;> first | rfl | omega)) | (rw [jm hs (by assumption)]; first | exact qm hde | exact congrArg Neg.neg (qm hde) | rfl | (rw [qX hpx hpy]; unfold cmpN; split <;> (try split) <;> first | rfl | omega)) : -(cmpN (x.num.natAbs * y.den) (y.num.natAbs * x.den)) = cmpQ x y)) (fun (h23 : ¬ (x.num < 0)) => (by first | exact ((qL (by assumption)).1 (by assumption)).symm | exact ((qL (by assumption)).2 (by assumption)).symm | (rw [jl hs (by assumption)]; first | exact qm hde | exact congrArg Neg.neg (qm hde) | rfl | (rw [qX hpx hpy]; unfold cmpN; split <;> (try split) <;> first | rfl | omega)) | (rw [jm hs (by assumption)]; first | exact qm hde | exact congrArg Neg.neg (qm hde) | rfl | (rw [qX hpx hpy]; unfold cmpN; split <;> (try split) <;> first | rfl | omega)) : cmpN (x.num.natAbs * y.den) (y.num.natAbs * x.den) = cmpQ x y)))) (fun (h24 : ¬ (pb x = true)) => And.intro (fun (h25 : x.num < 0) => (by first | exact ((qL (by assumption)).1 (by assumption)).symm | exact ((qL (by assumption)).2 (by assumption)).symm | (rw [jl hs (by assumption)]; first | exact qm hde | exact congrArg Neg.neg (qm hde) | rfl | (rw [qX hpx hpy]; unfold cmpN; split <;> (try split) <;> first | rfl | omega)) | (rw [jm hs (by assumption)]; first | exact qm hde | exact congrArg Neg.neg (qm hde) | rfl | (rw [qX hpx hpy]; unfold cmpN; split <;> (try split) <;> first | rfl | omega)) : -(cmpN (x.num.natAbs * y.den) (y.num.natAbs * x.den)) = cmpQ x y)) (fun (h26 : ¬ (x.num < 0)) => (by first | exact ((qL (by assumption)).1 (by assumption)).symm | exact ((qL (by assumption)).2 (by assumption)).symm | (rw [jl hs (by assumption)]; first | exact qm hde | exact congrArg Neg.neg (qm hde) | rfl | (rw [qX hpx hpy]; unfold cmpN; split <;> (try split) <;> first | rfl | omega)) | (rw [jm hs (by assumption)]; first | exact qm hde | exact congrArg Neg.neg (qm hde) | rfl | (rw [qX hpx hpy]; unfold cmpN; split <;> (try split) <;> first | rfl | omega)) : cmpN (x.num.natAbs * y.den) (y.num.natAbs * x.den) = cmpQ x y))))))⟩)
abbrev CC : Ctr Tryz.prog := FI.c VB
abbrev SA : FI := ⟨260, [.rat, .rat], [(.n 1099511627776), (.n 1099511627776)], fun _ => [], fun b z => (fun (x : Rat) (y : Rat) => .c (.one (.dt .bool .u (decide (x = y))))) z.1 z.2⟩
theorem SB : SA.OK Tryz.prog := mkF hmix 24 Tryz.func260 rfl rfl (by decide) [(207, .c Km)] (fun _ => rfl) (fun _ => rfl) (fun _ _ => rfl) (fun (x : Rat) (y : Rat) b hx hp => qe trivial rfl) (fun (x : Rat) (y : Rat) hx hp => by
 exact ⟨.nil, kcast (by kernel_rfl) (And.intro (fun (h1 : (decide (x.num < 0)) = (decide (y.num < 0))) => And.intro (fun (h2 : decide ((limbs x.num.natAbs) = (limbs y.num.natAbs)) = true) => (by first | exact KY (by assumption) | exact KZ (by assumption) | exact L0 (by assumption) (by assumption) : decide ((denL x.den) = (denL y.den)) = decide (x = y))) (fun (h3 : ¬ (decide ((limbs x.num.natAbs) = (limbs y.num.natAbs)) = true)) => (by first | exact KY (by assumption) | exact KZ (by assumption) | exact L0 (by assumption) (by assumption) : false = decide (x = y)))) (fun (h4 : ¬ ((decide (x.num < 0)) = (decide (y.num < 0)))) => (by first | exact KY (by assumption) | exact KZ (by assumption) | exact L0 (by assumption) (by assumption) : false = decide (x = y))))⟩)
abbrev Sy : Ctr Tryz.prog := FI.c SB
abbrev VP : FI := ⟨66, [.rat, .rat], [(.n 68719476736), (.n 68719476736)], fun _ => [], fun b z => (fun (x : Rat) (y : Rat) => .c (.agg [.dt .rat (.n (max (b0 b).nb (b1 b).nb)) (minQ x y)])) z.1 z.2⟩
theorem VQ : VP.OK Tryz.prog := mkF hmix 12 Tryz.func66 rfl rfl (by decide) [(133, .c CC), (134, .c CD)] (fun _ => rfl) (fun _ => rfl) (fun _ _ => rfl) (fun (x : Rat) (y : Rat) b hx hp => ja (DT (Bnds.h2 hx).1 (Bnds.h2 hx).2)) (fun (x : Rat) (y : Rat) hx hp => by
 exact ⟨.nil, kcast (by kernel_rfl) (And.intro (fun (h1 : cmpQ y x < 0) => (by first | exact (if_pos (by assumption)).symm | exact (if_neg (by assumption)).symm : y = minQ x y)) (fun (h2 : ¬ (cmpQ y x < 0)) => (by first | exact (if_pos (by assumption)).symm | exact (if_neg (by assumption)).symm : x = minQ x y)))⟩)
abbrev N4 : Ctr Tryz.prog := FI.c VQ
abbrev VN : FI := ⟨131, [.rat, .rat], [(.n 68719476736), (.n 68719476736)], fun _ => [], fun b z => (fun (x : Rat) (y : Rat) => .c (.agg [.dt .rat (.n (max (b0 b).nb (b1 b).nb)) (maxQ x y)])) z.1 z.2⟩
theorem VO : VN.OK Tryz.prog := mkF hmix 12 Tryz.func131 rfl rfl (by decide) [(133, .c CC), (134, .c CD)] (fun _ => rfl) (fun _ => rfl) (fun _ _ => rfl) (fun (x : Rat) (y : Rat) b hx hp => ja (OA (Bnds.h2 hx).1 (Bnds.h2 hx).2)) (fun (x : Rat) (y : Rat) hx hp => by
 exact ⟨.nil, kcast (by kernel_rfl) (And.intro (fun (h1 : 0 < cmpQ y x) => (by first | exact (if_pos (by assumption)).symm | exact (if_neg (by assumption)).symm : y = maxQ x y)) (fun (h2 : ¬ (0 < cmpQ y x)) => (by first | exact (if_pos (by assumption)).symm | exact (if_neg (by assumption)).symm : x = maxQ x y)))⟩)
abbrev VM : Ctr Tryz.prog := FI.c VO
abbrev TG : FO := ⟨147, [(.sl (.nat .u32))], [(.s 1099511627776 (.n 4294967295))], fun z => (fun (ls : List Nat) => [∀ u ∈ ls, u < 4294967296]) z, fun k b z => (fun (ls : List Nat) => .c (.one (.gs k ((limbs (valL ls)).length) 1 ((b0 b).len)))) z, fun b z => (fun (ls : List Nat) => .gro (.nat .u32) (.n 4294967295) (limbs (valL ls))) z⟩
theorem TH : TG.OK Tryz.prog := mkO hmix 23 22 Tryz.func147 rfl rfl (by decide) [] (fun _ => rfl) (fun _ _ _ => rfl) (fun _ _ => rfl) (fun _ _ _ => ⟨rfl, rfl⟩) (fun (ls : List Nat) k b hx hp => ⟨qe (Nat.le_trans (FG (hp _ List.mem_cons_self)) (Bnds.h1 hx).sl.1) rfl, fun u hu => Nat.le_of_lt_succ (qO _ u hu)⟩) (fun (ls : List Nat) hx hp => by
 have hl0 : ls.length ≤ 1099511627776 := hx.1
 have hp0 : ∀ u ∈ ls, u < 4294967296 := hp _ (List.mem_cons_self)
 exact bodyO.g (.loop [.s 3 (.nat .i64) (.n 1099511627776)] (fun (k : Nat) => k ≤ ls.length ∧ valL (ls.take k) = valL ls) (fun (k : Nat) => k) (fun (k : Nat) => .cond (.h 2 5 (.i .sub) (.cond (.h 3 1 (.i .sub) (.nil)) (.h 4 0 (.mk (.gro (.nat .u32) (.n 4294967295))) (.nil)))) (.h 4 0 (.mk (.gro (.nat .u32) (.n 4294967295))) (.nil)))) (kcast (by kernel_rfl) (I (⟨Nat.le_refl _, by rw [List.take_length]⟩ : ls.length ≤ ls.length ∧ valL (ls.take ls.length) = valL ls) (fun (k : Nat) (hb1 : HB [.s 3 (.nat .i64) (.n 1099511627776)] k) (hC : k ≤ ls.length ∧ valL (ls.take k) = valL ls) => have hv6 := (show k ≤ 1099511627776 from hb1); have hk := hC.1; And.intro (fun (h2 : 0 < k) => I (by omega : 1 ≤ k) (I (by omega : k - 1 < ls.length) (And.intro (fun (h3 : ls.getD (k - 1) 0 = 0) => I (by omega : 1 ≤ k) (And.intro (⟨by omega, CQ hC.1 (by omega) hC.2 (by omega)⟩ : k - 1 ≤ ls.length ∧ valL (ls.take (k - 1)) = valL ls) (by omega : k - 1 < k))) (fun (h4 : ¬ (ls.getD (k - 1) 0 = 0)) => I (by omega : k ≤ ls.length) (I (rfl : 0 = ([] : List Nat).length) (And.intro ((List.nil_append _).trans (ze hp0 hC.1 hC.2 (by omega)) : ([] : List Nat) ++ (ls.take k) = limbs (valL ls)) ((by rw [← ze hp0 hC.1 hC.2 (by omega)]; simp : 0 + (ls.take k).length = (limbs (valL ls)).length)))))))) (fun (h5 : ¬ (0 < k)) => I (by omega : k ≤ ls.length) (I (rfl : 0 = ([] : List Nat).length) (And.intro ((List.nil_append _).trans (ze hp0 hC.1 hC.2 (by omega)) : ([] : List Nat) ++ (ls.take k) = limbs (valL ls)) ((by rw [← ze hp0 hC.1 hC.2 (by omega)]; simp : 0 + (ls.take k).length = (limbs (valL ls)).length)))))))))
abbrev TF (k : Nat) (b : List Bd) (ls : List Nat) : WV := .c (.one (.gs k ((limbs (valL ls)).length) 1 ((b0 b).len)))
abbrev TE (b : List Bd) (ls : List Nat) : WB := .gro (.nat .u32) (.n 4294967295) (limbs (valL ls))
theorem NL (d : Nat) (ls : List Nat) (hx : Bnds [(.sl (.nat .u32))] [(.s 1099511627776 (.n 4294967295))] ls) (hp : ∀ c0 ∈ ([∀ u ∈ ls, u < 4294967296] : List Prop), c0) : SigG Tryz.prog 147 (argsE [(.sl (.nat .u32))] ls) [] (TF d [(.s 1099511627776 (.n 4294967295))] ls).exp [(d, some (TE [(.s 1099511627776 (.n 4294967295))] ls).exp)] := TH.sig d ls hx hp
theorem NK (b : List Bd) (ls : List Nat) (hx : Bnds [.sl (.nat .u32)] b ls) (hp : ∀ p ∈ ([∀ u ∈ ls, u < 4294967296] : List Prop), p) : (WV.c (.one (.dt .mag (.n (32 * (b0 b).len)) (valL ls)))).ok := qe (BI (hp _ List.mem_cons_self) (Bnds.h1 hx).sl.1) rfl
theorem Fi (ls : List Nat) (hx : Bnds [.sl (.nat .u32)] [.s 1099511627776 (.n 4294967295)] ls) (hp : ∀ p ∈ ([∀ u ∈ ls, u < 4294967296] : List Prop), p) (b : Bd) : Sig Tryz.prog 147 (argsE [.sl (.nat .u32)] ls) (WV.c (.one (.dt .mag b (valL ls)))).exp := by
 have h := frzO (NL 0 ls hx hp) (by decide) rfl .u
 rw [magE (valL ls) .u b] at h; exact h
def wc : Ctr Tryz.prog := ⟨147, [.sl (.nat .u32)], [.s 1099511627776 (.n 4294967295)], fun z => [∀ u ∈ z, u < 4294967296], fun b z => .c (.one (.dt .mag (.n (32 * (b0 b).len)) (valL z))), fun z hx hp => Fi z hx hp _, fun _ _ => rfl, fun b z hx hp => NK b z hx hp⟩
theorem Ly (x : Nat) (hx : Bnds [.mag] [.n 1099511627776] x) (b : Bd) : Sig Tryz.prog 147 (argsE [.mag] x) (WV.c (.one (.dt .mag b x))).exp := by
 have h := Fi (limbs x) ⟨Nat.le_trans (qf (Nat.le_of_lt hx)) (by decide), (Bnd.limbs hx).2⟩ (by intro p hp; simp only [List.mem_cons, List.not_mem_nil, or_false] at hp; subst hp; exact qO x) b
 rw [qn, ← C6] at h; exact h
def Ga : Ctr Tryz.prog := ⟨147, [.mag], [.n 1099511627776], fun z => [], fun b z => .c (.one (.dt .mag (b0 b) z)), fun z hx hp => Ly z hx _, fun _ _ => rfl, fun b z hx hp => qe (Bnds.h1 hx) rfl⟩
abbrev XW : FI := ⟨150, [(.nat .u64)], [(.n 18446744073709551615)], fun _ => [], fun b z => (fun (x : Nat) => .c (.one (.dt .mag (.n (Nat.log2 (b0 b).nb + 1)) (x)))) z⟩
theorem XX : XW.OK Tryz.prog := mkF hmix 10 Tryz.func150 rfl rfl (by decide) [] (fun _ => rfl) (fun _ => rfl) (fun _ _ => rfl) (fun (x : Nat) b hx hp => qe (zm (Bnds.h1 hx).nat) rfl) (fun (x : Nat) hx hp => by
 have hx0 : x ≤ 18446744073709551615 := hx
 exact ⟨.h 1 5 (.mk (.im (.nat .u32) (.n 4294967295))) (.h 1 6 (.c wc) (.nil)), kcast (by kernel_rfl) (I (by intro u hu; simp only [List.mem_cons, List.not_mem_nil, or_false] at hu; omega : ∀ u ∈ [x % 4294967296, x / 2 ^ 32], u < 4294967296) ((by simp only [valL]; omega : valL [x % 4294967296, x / 2 ^ 32] = x)))⟩)
abbrev H4 : Ctr Tryz.prog := FI.c XX
abbrev Wx : FI := ⟨82, [.mag, .mag], [(.n 1099511627776), (.n 1099511627776)], fun _ => [], fun b z => (fun (x : Nat) (y : Nat) => .c (.one (.dt (.int .i64) (.n 1) (cmpN x y)))) z.1 z.2⟩
theorem Wy : Wx.OK Tryz.prog := mkF hmix 41 Tryz.func82 rfl rfl (by decide) [] (fun _ => rfl) (fun _ => rfl) (fun _ _ => rfl) (fun (x : Nat) (y : Nat) b hx hp => qe (Jd x y) rfl) (fun (x : Nat) (y : Nat) hx hp => by
 have hx0 : lt2 x 1099511627776 := hx.1
 have hl0 : (limbs x).length ≤ 34359738369 := qf (Nat.le_of_lt hx0)
 have hx1 : lt2 y 1099511627776 := hx.2
 have hl1 : (limbs y).length ≤ 34359738369 := qf (Nat.le_of_lt hx1)
 exact ⟨.cond (.nil) (.loop [.s 5 (.int .i64) (.n 68719476736)] (fun (z : Int) => CmpI x y z) (fun (z : Int) => (z + 1).toNat) (fun (z : Int) => .cond (.h 8 2 (.ix z.toNat) (.h 8 6 (.ix z.toNat) (.cond (.nil) (.h 10 2 (.ix z.toNat) (.h 10 6 (.ix z.toNat) (.nil)))))) (.nil))), kcast (by kernel_rfl) (And.intro (fun (h1 : (limbs x).length ≠ (limbs y).length) => And.intro (fun (h2 : (limbs x).length < (limbs y).length) => (by first | exact (Bq (by omega)).symm | exact ((hC.at (by omega) (by omega)).2.1 (by omega)).symm : (-1) = cmpN x y)) (fun (h3 : ¬ ((limbs x).length < (limbs y).length)) => (by first | exact (Br (by omega)).symm | exact ((hC.at (by omega) (by omega)).2.2 (by omega)).symm : 1 = cmpN x y))) (fun (h4 : ¬ ((limbs x).length ≠ (limbs y).length)) => I (CmpI.start (by omega) : CmpI x y ((((limbs x).length : Nat) : Int) - 1)) (fun (z : Int) (hb5 : HB [.s 5 (.int .i64) (.n 68719476736)] z) (hC : CmpI x y z) => have hv12 := (show Int.natAbs z ≤ 68719476736 from hb5); have hC0 := hC.h0; have hC1 := hC.h1; And.intro (fun (h6 : 0 ≤ z) => I (by omega : z = ((z.toNat : Nat) : Int)) (I (by omega : z.toNat < (limbs x).length) (I (by omega : z = ((z.toNat : Nat) : Int)) (I (by omega : z.toNat < (limbs y).length) (And.intro (fun (h7 : (limbs x).getD z.toNat 0 < (limbs y).getD z.toNat 0) => (by first | exact (Bq (by omega)).symm | exact ((hC.at (by omega) (by omega)).2.1 (by omega)).symm : (-1) = cmpN x y)) (fun (h8 : ¬ ((limbs x).getD z.toNat 0 < (limbs y).getD z.toNat 0)) => I (by omega : z = ((z.toNat : Nat) : Int)) (I (by omega : z.toNat < (limbs x).length) (I (by omega : z = ((z.toNat : Nat) : Int)) (I (by omega : z.toNat < (limbs y).length) (And.intro (fun (h9 : (limbs y).getD z.toNat 0 < (limbs x).getD z.toNat 0) => (by first | exact (Br (by omega)).symm | exact ((hC.at (by omega) (by omega)).2.2 (by omega)).symm : 1 = cmpN x y)) (fun (h10 : ¬ ((limbs y).getD z.toNat 0 < (limbs x).getD z.toNat 0)) => I (show Int.natAbs (z - 1) ≤ 68719476736 by omega : Bnd (.int .i64) (.n 68719476736) (z - 1)) (And.intro ((hC.at (by omega) (by omega)).1 (by omega) : CmpI x y (z - 1)) (by omega : ((z - 1) + 1).toNat < (z + 1).toNat))))))))))))) (fun (h11 : ¬ (0 ≤ z)) => ((hC.fin (by omega)).symm : 0 = cmpN x y)))))⟩)
abbrev CV : Ctr Tryz.prog := FI.c Wy
abbrev PJ : FI := ⟨193, [.mag, .mag], [(.n 1099511627776), (.n 1099511627776)], fun z => (fun (x : Nat) (y : Nat) => [y ≤ x]) z.1 z.2, fun b z => (fun (x : Nat) (y : Nat) => .c (.one (.dt .mag (b0 b) (x - y)))) z.1 z.2⟩
theorem PK : PJ.OK Tryz.prog := mkF hmix 50 Tryz.func193 rfl rfl (by decide) [] (fun _ => rfl) (fun _ => rfl) (fun _ _ => rfl) (fun (x : Nat) (y : Nat) b hx hp => qe (Bnd.magLe (Bnds.h2 hx).1 (Nat.sub_le _ _)) rfl) (fun (x : Nat) (y : Nat) hx hp => by
 have hx0 : lt2 x 1099511627776 := hx.1
 have hl0 : (limbs x).length ≤ 34359738369 := qf (Nat.le_of_lt hx0)
 have hx1 : lt2 y 1099511627776 := hx.2
 have hl1 : (limbs y).length ≤ 34359738369 := qf (Nat.le_of_lt hx1)
 have hp0 : y ≤ x := hp _ (List.mem_cons_self)
 have hlen := jQ hp0
 exact ⟨.h 1 2 (.mk (.arr (.nat .u32) (.n 4294967295))) (.loop [.s 7 (.nat .i64) (.n 34359738369), .s 6 (.nat .u64) (.n 1), .a 12 (.nat .u32) (.n 4294967295)] (fun ((i, c, out) : Nat × Nat × List Nat) => SubI x y i c out) (fun ((i, c, out) : Nat × Nat × List Nat) => (limbs x).length - i) (fun ((i, c, out) : Nat × Nat × List Nat) => .cond (.cond (.cond (.h 14 4 (.i .sub) (.nil)) (.h 14 4 (.i .sub) (.nil))) (.cond (.h 14 4 (.i .sub) (.nil)) (.h 14 4 (.i .sub) (.nil)))) (.pre 15 (.frz 12 true [5]) (.h 15 1 (.c wc) (.nil))))), kcast (by kernel_rfl) (I (by omega : (limbs x).length = (limbs x).length) (I (SubI.start x y : SubI x y 0 0 (List.replicate ((limbs x).length) (0 : Nat))) (fun (i : Nat) (c : Nat) (out : List Nat) (hb1 : HB [.s 7 (.nat .i64) (.n 34359738369), .s 6 (.nat .u64) (.n 1), .a 12 (.nat .u32) (.n 4294967295)] (i, c, out)) (hI : SubI x y i c out) => have hv10 := (show i ≤ 34359738369 from hb1.1); have hv11 := (show c ≤ 1 from hb1.2.1); have hv12 := (show ∀ u ∈ out, u ≤ 4294967295 from hb1.2.2); have hIl := hI.hl; have hIi := hI.hi; have hIc := hI.hc; have hg1 := q7 x i; have hg2 := q7 y i; And.intro (fun (h2 : i < (limbs x).length) => And.intro (fun (h3 : i < (limbs y).length) => I (by omega : i < (limbs y).length) (I (by omega : i < (limbs x).length) (And.intro (fun (h4 : (limbs x).getD i 0 < c + ((limbs y).getD i 0)) => I (by omega : c + ((limbs y).getD i 0) ≤ ((limbs x).getD i 0) + 4294967296) (I (by omega : i < (limbs x).length) (I (by omega : i < out.length) (I (show (i + 1) ≤ 34359738369 by omega : Bnd (.nat .i64) (.n 34359738369) (i + 1)) (And.intro (by first | exact hI.lt (by omega) (by first | rfl | rw [qo (l := limbs y) (by omega), Nat.add_zero]) (by assumption) | exact hI.ge (by omega) (by first | rfl | rw [qo (l := limbs y) (by omega), Nat.add_zero]) (by assumption) : SubI x y (i + 1) 1 (out.set i (((((limbs x).getD i 0) + 4294967296) - (c + ((limbs y).getD i 0))) % 4294967296))) (by omega : (limbs x).length - (i + 1) < (limbs x).length - i)))))) (fun (h5 : ¬ ((limbs x).getD i 0 < c + ((limbs y).getD i 0))) => I (by omega : c + ((limbs y).getD i 0) ≤ (limbs x).getD i 0) (I (by omega : i < (limbs x).length) (I (by omega : i < out.length) (I (show (i + 1) ≤ 34359738369 by omega : Bnd (.nat .i64) (.n 34359738369) (i + 1)) (And.intro (by first | exact hI.lt (by omega) (by first | rfl | rw [qo (l := limbs y) (by omega), Nat.add_zero]) (by assumption) | exact hI.ge (by omega) (by first | rfl | rw [qo (l := limbs y) (by omega), Nat.add_zero]) (by assumption) : SubI x y (i + 1) 0 (out.set i (((limbs x).getD i 0) - (c + ((limbs y).getD i 0))))) (by omega : (limbs x).length - (i + 1) < (limbs x).length - i))))))))) (fun (h6 : ¬ (i < (limbs y).length)) => I (by omega : i < (limbs x).length) (And.intro (fun (h7 : (limbs x).getD i 0 < c) => I (by omega : c ≤ ((limbs x).getD i 0) + 4294967296) (I (by omega : i < (limbs x).length) (I (by omega : i < out.length) (I (show (i + 1) ≤ 34359738369 by omega : Bnd (.nat .i64) (.n 34359738369) (i + 1)) (And.intro (by first | exact hI.lt (by omega) (by first | rfl | rw [qo (l := limbs y) (by omega), Nat.add_zero]) (by assumption) | exact hI.ge (by omega) (by first | rfl | rw [qo (l := limbs y) (by omega), Nat.add_zero]) (by assumption) : SubI x y (i + 1) 1 (out.set i (((((limbs x).getD i 0) + 4294967296) - c) % 4294967296))) (by omega : (limbs x).length - (i + 1) < (limbs x).length - i)))))) (fun (h8 : ¬ ((limbs x).getD i 0 < c)) => I (by omega : c ≤ (limbs x).getD i 0) (I (by omega : i < (limbs x).length) (I (by omega : i < out.length) (I (show (i + 1) ≤ 34359738369 by omega : Bnd (.nat .i64) (.n 34359738369) (i + 1)) (And.intro (by first | exact hI.lt (by omega) (by first | rfl | rw [qo (l := limbs y) (by omega), Nat.add_zero]) (by assumption) | exact hI.ge (by omega) (by first | rfl | rw [qo (l := limbs y) (by omega), Nat.add_zero]) (by assumption) : SubI x y (i + 1) 0 (out.set i (((limbs x).getD i 0) - c))) (by omega : (limbs x).length - (i + 1) < (limbs x).length - i))))))))) (fun (h9 : ¬ (i < (limbs x).length)) => I (by omega : (limbs x).length = out.length) (have hF := hI.fin' (by omega) hp0; I (hF.2 : ∀ u ∈ out, u < 4294967296) ((hF.1 : valL out = x - y)))))))⟩)
abbrev IL : Ctr Tryz.prog := FI.c PK
abbrev WK : FI := ⟨120, [.mag, .mag], [(.n 1099511627776), (.n 1099511627776)], fun _ => [], fun b z => (fun (x : Nat) (y : Nat) => .tup [.one (.dt .mag (b0 b) (x - y)), .one (.dt (.int .i64) (.n 7) (subC x y))]) z.1 z.2⟩
theorem WL : WK.OK Tryz.prog := mkF hmix 13 Tryz.func120 rfl rfl (by decide) [(82, .c CV), (193, .c IL)] (fun _ => rfl) (fun _ => rfl) (fun _ _ => rfl) (fun (x : Nat) (y : Nat) b hx hp => qF (qe (Bnd.magLe (Bnds.h2 hx).1 (Nat.sub_le _ _)) rfl) (qF (qe (Ng x y) rfl) jz)) (fun (x : Nat) (y : Nat) hx hp => by
 have hx0 : lt2 x 1099511627776 := hx.1
 have hl0 : (limbs x).length ≤ 34359738369 := qf (Nat.le_of_lt hx0)
 have hx1 : lt2 y 1099511627776 := hx.2
 have hl1 : (limbs y).length ≤ 34359738369 := qf (Nat.le_of_lt hx1)
 exact ⟨.nil, kcast (by kernel_rfl) (And.intro (fun (h1 : cmpN x y < 0) => And.intro (by have := jg.1 (show cmpN x y < 0 by assumption); omega : 0 = x - y) ((if_pos (jg.1 (by assumption))).symm : 7 = subC x y)) (fun (h2 : ¬ (cmpN x y < 0)) => have hp0 := (show y ≤ x from Nat.le_of_not_lt (mt jg.2 (by assumption))); I (by omega : y ≤ x) (And.intro (Eq.refl (x - y)) ((if_neg (by omega)).symm : 0 = subC x y))))⟩)
abbrev WJ : Ctr Tryz.prog := FI.c WL
abbrev WH : FI := ⟨78, [.mag, .mag], [(.n 1099511627776), (.n 1099511627776)], fun _ => [], fun b z => (fun (x : Nat) (y : Nat) => .c (.one (.dt .mag (.n ((b0 b).nb + (b1 b).nb)) (x * y)))) z.1 z.2⟩
theorem WI : WH.OK Tryz.prog := mkF hmix 67 Tryz.func78 rfl rfl (by decide) [] (fun _ => rfl) (fun _ => rfl) (fun _ _ => rfl) (fun (x : Nat) (y : Nat) b hx hp => qe (Db (Bnds.h2 hx).1.mag (Bnds.h2 hx).2.mag) rfl) (fun (x : Nat) (y : Nat) hx hp => by
 have hx0 : lt2 x 1099511627776 := hx.1
 have hl0 : (limbs x).length ≤ 34359738369 := qf (Nat.le_of_lt hx0)
 have hx1 : lt2 y 1099511627776 := hx.2
 have hl1 : (limbs y).length ≤ 34359738369 := qf (Nat.le_of_lt hx1)
 exact ⟨.h 1 5 (.mk (.arr (.nat .u32) (.n 4294967295))) (.loop [.s 6 (.nat .i64) (.n 34359738369), .a 14 (.nat .u32) (.n 4294967295)] (fun ((i, out) : Nat × List Nat) => MulI x y i out) (fun ((i, out) : Nat × List Nat) => (limbs x).length - i) (fun ((i, out) : Nat × List Nat) => .cond (.loop [.s 8 (.nat .i64) (.n 34359738369), .s 7 (.nat .u64) (.n 4294967295), .a 14 (.nat .u32) (.n 4294967295)] (fun ((j, c, out2) : Nat × Nat × List Nat) => MulJ x y i ((limbs x).getD i 0) j c out out2) (fun ((j, c, out2) : Nat × Nat × List Nat) => (limbs y).length - j) (fun ((j, c, out2) : Nat × Nat × List Nat) => .nil)) (.pre 13 (.frz 14 true [5]) (.h 13 1 (.c wc) (.nil))))), kcast (by kernel_rfl) (I (by omega : ((limbs x).length) + ((limbs y).length) = ((limbs x).length) + ((limbs y).length)) (I (MulI.start x y : MulI x y 0 (List.replicate (((limbs x).length) + ((limbs y).length)) (0 : Nat))) (fun (i : Nat) (out : List Nat) (hb1 : HB [.s 6 (.nat .i64) (.n 34359738369), .a 14 (.nat .u32) (.n 4294967295)] (i, out)) (hM : MulI x y i out) => have hv10 := (show i ≤ 34359738369 from hb1.1); have hv11 := (show ∀ u ∈ out, u ≤ 4294967295 from hb1.2); have hMl := hM.hl; have hMi := hM.hi; And.intro (fun (h2 : i < (limbs x).length) => I (MulJ.start hM : MulJ x y i ((limbs x).getD i 0) 0 0 out out) (fun (j : Nat) (c : Nat) (out2 : List Nat) (hb3 : HB [.s 8 (.nat .i64) (.n 34359738369), .s 7 (.nat .u64) (.n 4294967295), .a 14 (.nat .u32) (.n 4294967295)] (j, c, out2)) (hJ : MulJ x y i ((limbs x).getD i 0) j c out out2) => have hv6 := (show j ≤ 34359738369 from hb3.1); have hv7 := (show c ≤ 4294967295 from hb3.2.1); have hv8 := (show ∀ u ∈ out2, u ≤ 4294967295 from hb3.2.2); have hJl := hJ.hl; have hJj := hJ.hj; have hJc := hJ.hc; And.intro (fun (h4 : j < (limbs y).length) => I (by omega : i < (limbs x).length) (I (by omega : j < (limbs y).length) (I (by omega : i + j < ((limbs x).length) + ((limbs y).length)) (I (by omega : i + j < out2.length) (I (by omega : i + j < ((limbs x).length) + ((limbs y).length)) (I (by omega : i + j < out2.length) (I (show (j + 1) ≤ 34359738369 by omega : Bnd (.nat .i64) (.n 34359738369) (j + 1)) (And.intro ((hJ.step (by omega) (by omega) (q7 x i) rfl).1 : MulJ x y i ((limbs x).getD i 0) (j + 1) ((c + ((((limbs x).getD i 0) * ((limbs y).getD j 0)) + (out2.getD (i + j) 0))) / 2 ^ 32) out (out2.set (i + j) ((c + ((((limbs x).getD i 0) * ((limbs y).getD j 0)) + (out2.getD (i + j) 0))) % 4294967296))) (by omega : (limbs y).length - (j + 1) < (limbs y).length - j))))))))) (fun (h5 : ¬ (j < (limbs y).length)) => I (by omega : i + ((limbs y).length) < ((limbs x).length) + ((limbs y).length)) (I (by omega : i + ((limbs y).length) < out2.length) (I (show (i + 1) ≤ 34359738369 by omega : Bnd (.nat .i64) (.n 34359738369) (i + 1)) (And.intro (MulJ.fin' hM (by omega) hJ (by omega) : MulI x y (i + 1) (out2.set (i + ((limbs y).length)) c)) (by omega : (limbs x).length - (i + 1) < (limbs x).length - i))))))) (fun (h9 : ¬ (i < (limbs x).length)) => I (by omega : ((limbs x).length) + ((limbs y).length) = out.length) (have hF := hM.fin' (by omega); I (hF.2 : ∀ u ∈ out, u < 4294967296) ((hF.1 : valL out = x * y)))))))⟩)
abbrev CW : Ctr Tryz.prog := FI.c WI
abbrev NH : FI := ⟨222, [.mag, (.nat .u32)], [(.n 1099511627776), (.n 4294967295)], fun z => (fun (x : Nat) (u : Nat) => [0 < u]) z.1 z.2, fun b z => (fun (x : Nat) (u : Nat) => .tup [.one (.dt .mag (b0 b) (x / u)), .one (.dt (.nat .u32) (b1 b) (x % u))]) z.1 z.2⟩
theorem NI : NH.OK Tryz.prog := mkF hmix 43 Tryz.func222 rfl rfl (by decide) [] (fun _ => rfl) (fun _ => rfl) (fun _ _ => rfl) (fun (x : Nat) (u : Nat) b hx hp => qF (qe ((Bnds.h2 hx).1.magLe (Nat.div_le_self _ _)) rfl) (qF (qe ((Bnds.h2 hx).2.natLe (Nat.le_of_lt (Nat.mod_lt _ (hp _ (List.mem_cons_self))))) rfl) jz)) (fun (x : Nat) (u : Nat) hx hp => by
 have hx0 : lt2 x 1099511627776 := hx.1
 have hl0 : (limbs x).length ≤ 34359738369 := qf (Nat.le_of_lt hx0)
 have hx1 : u ≤ 4294967295 := hx.2
 have hp0 : 0 < u := hp _ (List.mem_cons_self)
 exact ⟨.h 1 2 (.mk (.arr (.nat .u32) (.n 4294967295))) (.loop [.s 8 (.int .i64) (.n 34359738370), .s 7 (.nat .u64) (.n 4294967295), .a 11 (.nat .u32) (.n 4294967295)] (fun ((z, r, out) : Int × Nat × List Nat) => SmallZ x u z r out) (fun ((z, r, out) : Int × Nat × List Nat) => (z + 1).toNat) (fun ((z, r, out) : Int × Nat × List Nat) => .cond (.h 6 4 (.ix z.toNat) (.h 6 7 (.i (.n ((r * 2 ^ 32) + ((limbs x).getD z.toNat 0)) 18446744073709551615)) (.h 7 7 (.ix z.toNat) (.nil)))) (.pre 9 (.frz 11 true [6, 7]) (.h 9 1 (.c wc) (.nil))))), kcast (by kernel_rfl) (I (by omega : (limbs x).length = (limbs x).length) (I (SmallZ.start hp0 : SmallZ x u ((((limbs x).length : Nat) : Int) - 1) 0 (List.replicate ((limbs x).length) (0 : Nat))) (fun (z : Int) (r : Nat) (out : List Nat) (hb1 : HB [.s 8 (.int .i64) (.n 34359738370), .s 7 (.nat .u64) (.n 4294967295), .a 11 (.nat .u32) (.n 4294967295)] (z, r, out)) (hI : SmallZ x u z r out) => have hv4 := (show Int.natAbs z ≤ 34359738370 from hb1.1); have hv5 := (show r ≤ 4294967295 from hb1.2.1); have hv6 := (show ∀ u ∈ out, u ≤ 4294967295 from hb1.2.2); have hB := hI.b; And.intro (fun (h2 : 0 ≤ z) => I (by omega : z = ((z.toNat : Nat) : Int)) (I (by omega : z.toNat < (limbs x).length) (I (Aj _ 32 rfl (q7 _ _) (by have := q7 x z.toNat; omega) : qx .or .u64 ((r * 2 ^ 32 : Nat) : Int) (((limbs x).getD z.toNat 0 : Nat) : Int) (((r * 2 ^ 32) + ((limbs x).getD z.toNat 0) : Nat) : Int)) (I (by have := q7 x z.toNat; omega : (r * 2 ^ 32) + ((limbs x).getD z.toNat 0) ≤ 18446744073709551615) (I (by omega : 0 < u) (I (by omega : z = ((z.toNat : Nat) : Int)) (I (by omega : z.toNat < (limbs x).length) (I (by omega : z.toNat < out.length) (I (by omega : 0 < u) (I (show Int.natAbs (z - 1) ≤ 34359738370 by omega : Bnd (.int .i64) (.n 34359738370) (z - 1)) (And.intro (hI.step (by omega) rfl : SmallZ x u (z - 1) (((r * 2 ^ 32) + ((limbs x).getD z.toNat 0)) % u) (out.set z.toNat ((((r * 2 ^ 32) + ((limbs x).getD z.toNat 0)) / u) % 4294967296))) (by omega : ((z - 1) + 1).toNat < (z + 1).toNat)))))))))))) (fun (h3 : ¬ (0 ≤ z)) => I (by omega : (limbs x).length = out.length) (have hF := hI.fin (by omega); I (hF.2.2 : ∀ u ∈ out, u < 4294967296) (And.intro (hF.1 : valL out = x / u) (hF.2.1 : r = x % u)))))))⟩)
abbrev NG : Ctr Tryz.prog := FI.c NI
abbrev PO : FI := ⟨226, [.mag, (.nat .u32)], [(.n 1099511627776), (.n 4294967295)], fun _ => [], fun b z => (fun (x : Nat) (u : Nat) => .c (.one (.dt .mag (.n ((b0 b).nb + (Nat.log2 (b1 b).nb + 1))) (x * u)))) z.1 z.2⟩
theorem PP : PO.OK Tryz.prog := mkF hmix 10 Tryz.func226 rfl rfl (by decide) [(78, .c CW), (150, .c H4)] (fun _ => rfl) (fun _ => rfl) (fun _ _ => rfl) (fun (x : Nat) (u : Nat) b hx hp => qe (Db (Bnds.h2 hx).1.mag (zm (Bnds.h2 hx).2.nat)) rfl) (fun (x : Nat) (u : Nat) hx hp => by
 exact ⟨.nil, kcast (by kernel_rfl) ((Eq.refl (x * u)))⟩)
abbrev PN : Ctr Tryz.prog := FI.c PP
end Go.Proofs.YtchgnllhbcadpaaGreat.Sx
