/-
Own laws and walks for the claim, part 6: WKl, WKa1, WKa2, WKa3, WKa4, WKl2, WKb1, WKb2, WKb3, WKb4, WKl3, WKl4, WLw4. No condition.
-/
import Derived.Test.YtcjgaaibflcdiaaGreatC5

namespace Go.Proofs.YtcjgaaibflcdiaaGreat.Sx
open Go
set_option linter.unusedVariables false
theorem bi_sub64 {a b e : Int} (h : a - b = e) (hb : e.natAbs ≤ 4611686018427387904) : BinIs .sub .i64 a b e := by
  show IntKind.wrap .i64 (a - b) = e
  rw [h]; exact wrap_i64 (by omega) (by omega)
theorem val_gcd (x : Rat) : Nat.gcd x.num.natAbs x.den = 1 := x.reduced
theorem val_den {d : Nat} (h : (denL d).length = 1) (h1 : (denL d).getD 0 0 = 1) : False := by
  rw [denL_dm] at h h1
  have e : dm d = 1 := one_of h h1
  unfold dm at e; split at e <;> omega
theorem val_neg {x : Rat} (h : (limbs x.num.natAbs).length = 0) (h2 : x.num < 0) : False := by
  have := nl0.1 h; omega
theorem val_zden {x : Rat} (h : (limbs x.num.natAbs).length = 0) (h2 : 0 < (denL x.den).length) : False := by
  have e : x = 0 := Rat.num_eq_zero.1 (by have := nl0.1 h; omega)
  subst e
  exact absurd h2 (by decide)
theorem val_one {g : Nat} (h : g = 1) : (limbs g).length = 1 ∧ (limbs g).getD 0 0 = 1 := by subst h; exact ⟨by rw [limbs_one]; rfl, by rw [limbs_one]; rfl⟩
def bitsQ (x : Rat) : Nat := max (bl x.num.natAbs) (bl x.den)
theorem bitsQ_ok {x : Rat} {m : Nat} (h : Bnd .rat (.n m) x) : bitsQ x ≤ m + 1 := by
  have h := h.rat
  have h1 := bl_lb h.1
  have h2 := bl_lb (le2_lt2 h.2)
  simp only [Bd.nb] at h1 h2
  unfold bitsQ; omega
def dstN (k : List Rat) : Nat → List Rat
  | 0 => []
  | n + 1 => if n = 0 ∨ k.getD n 0 ≠ k.getD (n - 1) 0 then dstN k n ++ [k.getD n 0] else dstN k n
abbrev dst (k : List Rat) : List Rat := dstN k k.length
theorem dstN_len (k : List Rat) : ∀ n, (dstN k n).length ≤ n
  | 0 => Nat.le_refl 0
  | n + 1 => by have := dstN_len k n; rw [dstN]; split <;> (try simp only [List.length_append, List.length_cons, List.length_nil]) <;> omega
theorem dstN_mem {k : List Rat} : ∀ {n : Nat}, n ≤ k.length → ∀ x ∈ dstN k n, x ∈ k
  | 0, _, x, h => by cases h
  | n + 1, hn, x, h => by
    rw [dstN] at h; split at h
    · rcases List.mem_append.1 h with h | h
      · exact dstN_mem (by omega) x h
      · simp only [List.mem_singleton] at h; subst h; rw [getD_len (by omega)]; exact List.getElem_mem _
    · exact dstN_mem (by omega) x h
theorem dst_b {k : List Rat} {b : Bd} (h : Bnd (.sl .rat) b k) : Bnd (.sl .rat) (.s b.len (.n b.mx)) (dst k) :=
  ⟨Nat.le_trans (dstN_len k _) h.slm.1, fun v hv => h.slm.2 v (dstN_mem (Nat.le_refl _) v hv)⟩
theorem dst_yes {k : List Rat} {n : Nat} (h : n = 0 ∨ ¬ k.getD n 0 = k.getD (n - 1) 0) : dstN k n ++ [k.getD n 0] = dstN k (n + 1) := by rw [dstN, if_pos h]
theorem dst_no {k : List Rat} {n : Nat} (h : ¬ n = 0) (h2 : k.getD n 0 = k.getD (n - 1) 0) : dstN k n = dstN k (n + 1) := by rw [dstN, if_neg (by rintro (e | e); exact h e; exact e h2)]
def timesN (k : List Rat) (t : Rat) : Nat → Nat
  | 0 => 0
  | n + 1 => if k.getD n 0 = t then timesN k t n + 1 else timesN k t n
theorem timesN_le (k : List Rat) (t : Rat) : ∀ n, timesN k t n ≤ n
  | 0 => Nat.le_refl 0
  | n + 1 => by have := timesN_le k t n; rw [timesN]; split <;> omega
def srtN (k : List Rat) : Nat → Bool
  | 0 => true
  | n + 1 => srtN k n && (decide (n = 0) || decide (¬ cmpQ (k.getD n 0) (k.getD (n - 1) 0) < 0))
theorem srtN_yes {k : List Rat} {n : Nat} (h : srtN k n = true) (h2 : ¬ cmpQ (k.getD n 0) (k.getD (n - 1) 0) < 0) : srtN k (n + 1) = true := by rw [srtN, h, decide_eq_true h2]; simp
theorem srtN_no {k : List Rat} {n m : Nat} (hn : 1 ≤ n) (h2 : cmpQ (k.getD n 0) (k.getD (n - 1) 0) < 0) (hm : n < m) : srtN k m = false := by
  induction m with
  | zero => omega
  | succ m ih =>
    rw [srtN]
    by_cases e : n = m
    · subst e; rw [decide_eq_false (show ¬ n = 0 by omega), decide_eq_false (show ¬ ¬ _ from fun h => h h2)]; simp
    · rw [ih (by omega)]; rfl
def badM (k : List Rat) (d : Int) (i : Nat) : Prop :=
  ((i = 0 ∨ i + 1 = (dst k).length) ∧ ((timesN k ((dst k).getD i 0) k.length : Nat) : Int) ≠ d + 1) ∨ d + 1 < ((timesN k ((dst k).getD i 0) k.length : Nat) : Int) ∨ (0 < i ∧ i + 1 < (dst k).length ∧ d < ((timesN k ((dst k).getD i 0) k.length : Nat) : Int))
instance (k : List Rat) (d : Int) (i : Nat) : Decidable (badM k d i) := by unfold badM; infer_instance
def okN (k : List Rat) (d : Int) : Nat → Bool
  | 0 => true
  | i + 1 => okN k d i && decide (¬ badM k d i)
theorem okN_yes {k : List Rat} {d : Int} {i : Nat} (h : okN k d i = true) (h2 : ¬ badM k d i) : okN k d (i + 1) = true := by rw [okN, h, decide_eq_true h2]; rfl
theorem okN_no {k : List Rat} {d : Int} {i m : Nat} (h2 : badM k d i) (hm : i < m) : okN k d m = false := by
  induction m with
  | zero => omega
  | succ m ih =>
    rw [okN]
    by_cases e : i = m
    · subst e; rw [decide_eq_false (show ¬ ¬ _ from fun h => h h2), Bool.and_false]
    · rw [ih (by omega)]; rfl
def chkK (k : List Rat) (d : Int) : Int :=
  if d < 1 ∨ 6 < d then 1 else if (k.length : Int) < 2 * d + 2 then 5 else if 40 < (k.length : Int) - d - 1 then 2 else
  if srtN k k.length = false then 5 else if okN k d (dst k).length = false then 5 else if (dst k).length < 2 then 5 else 0
theorem chkK_b (k : List Rat) (d : Int) : (chkK k d).natAbs ≤ 5 := by unfold chkK; repeat' split
                                                                      all_goals decide
section
variable {k : List Rat} {d : Int}
theorem chk_1 (h : d < 1 ∨ 6 < d) : 1 = chkK k d := by rw [chkK, if_pos h]
theorem chk_2 (h : ¬ (d < 1 ∨ 6 < d)) (h2 : (k.length : Int) < 2 * d + 2) : 5 = chkK k d := by rw [chkK, if_neg h, if_pos h2]
theorem chk_3 (h : ¬ (d < 1 ∨ 6 < d)) (h2 : ¬ (k.length : Int) < 2 * d + 2) (h3 : 40 < (k.length : Int) - d - 1) : 2 = chkK k d := by rw [chkK, if_neg h, if_neg h2, if_pos h3]
theorem chk_4 (h : ¬ (d < 1 ∨ 6 < d)) (h2 : ¬ (k.length : Int) < 2 * d + 2) (h3 : ¬ 40 < (k.length : Int) - d - 1) (h4 : srtN k k.length = false) : 5 = chkK k d := by rw [chkK, if_neg h, if_neg h2, if_neg h3, if_pos h4]
theorem chk_5 (h : ¬ (d < 1 ∨ 6 < d)) (h2 : ¬ (k.length : Int) < 2 * d + 2) (h3 : ¬ 40 < (k.length : Int) - d - 1) (h4 : srtN k k.length = true) (h5 : okN k d (dst k).length = false) : 5 = chkK k d := by
  rw [chkK, if_neg h, if_neg h2, if_neg h3, if_neg (by rw [h4]; exact fun e => by cases e), if_pos h5]
theorem chk_6 (h : ¬ (d < 1 ∨ 6 < d)) (h2 : ¬ (k.length : Int) < 2 * d + 2) (h3 : ¬ 40 < (k.length : Int) - d - 1) (h4 : srtN k k.length = true) (h5 : okN k d (dst k).length = true) (h6 : (dst k).length < 2) : 5 = chkK k d := by
  rw [chkK, if_neg h, if_neg h2, if_neg h3, if_neg (by rw [h4]; exact fun e => by cases e), if_neg (by rw [h5]; exact fun e => by cases e), if_pos h6]
theorem chk_7 (h : ¬ (d < 1 ∨ 6 < d)) (h2 : ¬ (k.length : Int) < 2 * d + 2) (h3 : ¬ 40 < (k.length : Int) - d - 1) (h4 : srtN k k.length = true) (h5 : okN k d (dst k).length = true) (h6 : ¬ (dst k).length < 2) : 0 = chkK k d := by
  rw [chkK, if_neg h, if_neg h2, if_neg h3, if_neg (by rw [h4]; exact fun e => by cases e), if_neg (by rw [h5]; exact fun e => by cases e), if_neg h6]
end
def wgtN (l : List Pole) : Nat → Bool
  | 0 => true
  | n + 1 => wgtN l n && decide (0 < sgnQ (l.getD n ((0, 0, 0), 0)).2)
theorem wgtN_yes {l : List Pole} {n : Nat} (h : wgtN l n = true) (h2 : ¬ sgnQ (l.getD n ((0, 0, 0), 0)).2 ≤ 0) : wgtN l (n + 1) = true := by rw [wgtN, h, decide_eq_true (by omega)]; rfl
theorem wgtN_no {l : List Pole} {n m : Nat} (h2 : sgnQ (l.getD n ((0, 0, 0), 0)).2 ≤ 0) (hm : n < m) : wgtN l m = false := by
  induction m with
  | zero => omega
  | succ m ih =>
    rw [wgtN]
    by_cases e : n = m
    · subst e; rw [decide_eq_false (by omega), Bool.and_false]
    · rw [ih (by omega)]; rfl
def chkC (c : Curve) : Int :=
  if chkK c.2.1 c.1 ≠ 0 then chkK c.2.1 c.1 else if ((c.2.2.length : Nat) : Int) ≠ (c.2.1.length : Int) - c.1 - 1 then 1 else if wgtN c.2.2 c.2.2.length = false then 6 else 0
theorem chkC_b (c : Curve) : (chkC c).natAbs ≤ 8 := by
  unfold chkC; have := chkK_b c.2.1 c.1
  repeat' split
  all_goals first | omega | decide
section
variable {c : Curve}
theorem chc_1 (h : chkK c.2.1 c.1 ≠ 0) : chkK c.2.1 c.1 = chkC c := by rw [chkC, if_pos h]
theorem chc_2 (h : ¬ chkK c.2.1 c.1 ≠ 0) (h2 : ((c.2.2.length : Nat) : Int) ≠ (c.2.1.length : Int) - c.1 - 1) : 1 = chkC c := by rw [chkC, if_neg h, if_pos h2]
theorem chc_3 (h : ¬ chkK c.2.1 c.1 ≠ 0) (h2 : ¬ ((c.2.2.length : Nat) : Int) ≠ (c.2.1.length : Int) - c.1 - 1) (h3 : wgtN c.2.2 c.2.2.length = false) : 6 = chkC c := by rw [chkC, if_neg h, if_neg h2, if_pos h3]
theorem chc_4 (h : ¬ chkK c.2.1 c.1 ≠ 0) (h2 : ¬ ((c.2.2.length : Nat) : Int) ≠ (c.2.1.length : Int) - c.1 - 1) (h3 : wgtN c.2.2 c.2.2.length = true) : 0 = chkC c := by rw [chkC, if_neg h, if_neg h2, if_neg (by rw [h3]; exact fun e => by cases e)]
end
def ivl (k : List Rat) (t : Rat) : Nat → Nat
  | 0 => 0
  | n + 1 => if cmpQ t (k.getD (n + 1) 0) < 0 then ivl k t n else n + 1
theorem ivl_le (k : List Rat) (t : Rat) : ∀ n, ivl k t n ≤ n
  | 0 => Nat.le_refl 0
  | n + 1 => by have := ivl_le k t n; rw [ivl]; split <;> omega
theorem ivl_step {k : List Rat} {t : Rat} {n : Nat} (h0 : 0 < n) (h : cmpQ t (k.getD n 0) < 0) : ivl k t (n - 1) = ivl k t n := by
  obtain ⟨m, rfl⟩ : ∃ m, n = m + 1 := ⟨n - 1, by omega⟩
  rw [ivl, if_pos h]; rfl
theorem ivl_stop {k : List Rat} {t : Rat} {n : Nat} (h : 0 < n → ¬ cmpQ t (k.getD n 0) < 0) : ivl k t n = n := by
  cases n with
  | zero => rfl
  | succ m => rw [ivl, if_neg (h (by omega))]
def ivO (k : List Rat) (t : Rat) : Prop := cmpQ t (k.getD 0 0) < 0 ∨ 0 < cmpQ t (k.getD (k.length - 1) 0)
instance (k : List Rat) (t : Rat) : Decidable (ivO k t) := by unfold ivO; infer_instance
def ivE (k : List Rat) (t : Rat) : Int := if ivO k t then 7 else 0
def ivI (k : List Rat) (d : Int) (t : Rat) : Nat := if ivO k t then 0 else ivl k t (k.length - 2 - d.toNat)
theorem ivI_le (k : List Rat) (d : Int) (t : Rat) : ivI k d t ≤ k.length := by
  unfold ivI; split
  · omega
  · have := ivl_le k t (k.length - 2 - d.toNat); omega
theorem ivE_b (k : List Rat) (t : Rat) : (ivE k t).natAbs ≤ 7 := by unfold ivE; split <;> decide
structure IvZ (k : List Rat) (d : Int) (t : Rat) (z : Nat) : Prop where
  hi : z ≤ k.length - 2 - d.toNat
  he : ivl k t z = ivl k t (k.length - 2 - d.toNat)
theorem IvZ.start (k : List Rat) (d : Int) (t : Rat) : IvZ k d t (k.length - 2 - d.toNat) := ⟨Nat.le_refl _, rfl⟩
theorem IvZ.step {k : List Rat} {d : Int} {t : Rat} {z : Nat} (h : IvZ k d t z) (h0 : 0 < z) (h2 : cmpQ t (k.getD z 0) < 0) : IvZ k d t (z - 1) := ⟨by have := h.hi; omega, by rw [ivl_step h0 h2, h.he]⟩
theorem IvZ.fin {k : List Rat} {d : Int} {t : Rat} {z : Nat} (h : IvZ k d t z) (hO : ¬ ivO k t) (h2 : 0 < z → ¬ cmpQ t (k.getD z 0) < 0) : z = ivI k d t := by
  rw [ivI, if_neg hO, ← h.he, ivl_stop h2]
def bsp (k : List Rat) (t : Rat) (at_ : Nat) : Nat → Nat → Rat
  | 0, i => if i = at_ then ((1 : Int) : Rat) else 0
  | d + 1, i => if at_ < i ∨ i + (d + 1) < at_ then 0 else
    (t - k.getD i 0) / (k.getD (i + (d + 1)) 0 - k.getD i 0) * bsp k t at_ d i + (k.getD (i + (d + 1) + 1) 0 - t) / (k.getD (i + (d + 1) + 1) 0 - k.getD (i + 1) 0) * bsp k t at_ d (i + 1)
theorem bsp_0y {k : List Rat} {t : Rat} {a i : Nat} {d : Int} (hd : d = 0) (h : i = a) : ((1 : Int) : Rat) = bsp k t a d.toNat i := by subst hd; subst h; simp [bsp]
theorem bsp_0n {k : List Rat} {t : Rat} {a i : Nat} {d : Int} (hd : d = 0) (h : ¬ i = a) : 0 = bsp k t a d.toNat i := by subst hd; simp [bsp, h]
theorem bsp_out {k : List Rat} {t : Rat} {a i : Nat} {d : Int} (hd : 0 < d) (h : a < i ∨ i + d.toNat < a) : 0 = bsp k t a d.toNat i := by
  obtain ⟨n, hn⟩ : ∃ n, d.toNat = n + 1 := ⟨d.toNat - 1, by omega⟩
  rw [hn] at h ⊢
  rw [bsp, if_pos h]
theorem bsp_in {k : List Rat} {t : Rat} {a i : Nat} {d : Int} (hd : 0 < d) (h : ¬ (a < i ∨ i + d.toNat < a)) :
    (t - k.getD i 0) / (k.getD (i + d.toNat) 0 - k.getD i 0) * bsp k t a (d - 1).toNat i + (k.getD (i + d.toNat + 1) 0 - t) / (k.getD (i + d.toNat + 1) 0 - k.getD (i + 1) 0) * bsp k t a (d - 1).toNat (i + 1) = bsp k t a d.toNat i := by
  obtain ⟨n, hn⟩ : ∃ n, d.toNat = n + 1 := ⟨d.toNat - 1, by omega⟩
  rw [hn] at h ⊢
  rw [show (d - 1).toNat = n by omega]
  conv => rhs; rw [bsp, if_neg h]
def bspB (m : Nat) : Nat → Nat
  | 0 => 2
  | d + 1 => 2 * (4 * m + 2 + bspB m d) + 1
theorem bspB_mono (m : Nat) {a c : Nat} (h : a ≤ c) : bspB m a ≤ bspB m c := by
  induction h with
  | refl => exact Nat.le_refl _
  | step h ih => rw [bspB]; omega
theorem bsp_b {k : List Rat} {t : Rat} {m : Nat} (hk : ∀ v ∈ k, Bnd .rat (.n m) v) (ht : Bnd .rat (.n m) t) (a : Nat) : ∀ d i, Bnd .rat (.n (bspB m d)) (bsp k t a d i)
  | 0, i => by
    rw [bsp]; split
    · exact one_b _ (show 1 ≤ 2 by decide)
    · exact zero_bn _
  | d + 1, i => by
    rw [bsp]; split
    · exact zero_bn _
    · have g : ∀ j, Bnd .rat (.n m) (k.getD j 0) := fun j => getD_bn hk j
      have h1 := mul_b (div_b (sub_b ht (g i)) (sub_b (g (i + (d + 1))) (g i))) (bsp_b hk ht a d i)
      have h2 := mul_b (div_b (sub_b (g (i + (d + 1) + 1)) ht) (sub_b (g (i + (d + 1) + 1)) (g (i + 1)))) (bsp_b hk ht a d (i + 1))
      exact rat_le (add_b h1 h2) (by rw [bspB]; omega)
theorem bsp_bb {k : List Rat} {t : Rat} (hk : ∀ v ∈ k, Bnd .rat (.n 4096) v) (ht : Bnd .rat (.n 4096) t) (a : Nat) {d : Int} (hd : d ≤ 6) (i : Nat) : Bnd .rat (.n 4194304) (bsp k t a d.toNat i) :=
  rat_le (bsp_b hk ht a d.toNat i) (Nat.le_trans (bspB_mono 4096 (show d.toNat ≤ 6 by omega)) (by decide))
def bvlL (k : List Rat) (d : Int) (t : Rat) : List Rat := if ivO k t then [] else (List.range (d.toNat + 1)).map fun j => bsp k t (ivI k d t) d.toNat (ivI k d t - d.toNat + j)
end Go.Proofs.YtcjgaaibflcdiaaGreat.Sx

namespace Go.Proofs.YtcjgaaibflcdiaaGreat.Sx
open Go Go.Proofs
set_option linter.unusedVariables false
set_option linter.unusedSimpArgs false
set_option maxRecDepth 20000
set_option maxHeartbeats 4000000
abbrev yvalid_i : FI := ⟨69, [.rat], [(.n 68719476736)], fun _ => [], fun b z => .c (.one (.vl (.bool true)))⟩
theorem yvalid_k : yvalid_i.OK Tryz.prog := mkF hmix 57 Tryz.func69 rfl rfl (by decide) [(78, .c yden_c), (121, .c xvalid_c), (122, .c xgcd_c)] (fun _ => rfl) (fun _ => rfl) (fun _ _ => rfl) (fun (x : Rat) b hx hp => vl_ok rfl) (fun (x : Rat) hx hp => by
 exact ⟨.cond (.cond (.dead) (.cond (.cond (.dead) (.cond (.dead) ((fun (g : Nat) => .cond (.nil) (.dead)) (Nat.gcd x.num.natAbs x.den)))) ((fun (g : Nat) => .cond (.nil) (.dead)) (Nat.gcd x.num.natAbs x.den)))) (.cond (.cond (.dead) (.cond (.dead) ((fun (g : Nat) => .cond (.nil) (.dead)) (Nat.gcd x.num.natAbs x.den)))) ((fun (g : Nat) => .cond (.nil) (.dead)) (Nat.gcd x.num.natAbs x.den))), kcast (by kernel_rfl) (I (normL_limbs_last _ : (limbs x.num.natAbs).length = 0 ∨ (limbs x.num.natAbs).getD ((limbs x.num.natAbs).length - 1) 0 ≠ 0) (I (denL_last x.den : (denL x.den).length = 0 ∨ (denL x.den).getD ((denL x.den).length - 1) 0 ≠ 0) (And.intro (fun (h1 : (denL x.den).length = 1) => I (by omega : 0 < (denL x.den).length) (And.intro (fun (h2 : (denL x.den).getD 0 0 = 1) => (val_den h1 h2 : False)) (fun (h3 : ¬ ((denL x.den).getD 0 0 = 1)) => And.intro (fun (h4 : (limbs x.num.natAbs).length = 0) => And.intro (fun (h5 : x.num < 0) => (val_neg h4 h5 : False)) (fun (h6 : ¬ (x.num < 0)) => And.intro (fun (h7 : 0 < (denL x.den).length) => (val_zden h4 h7 : False)) (fun (h8 : ¬ (0 < (denL x.den).length)) => (fun (g : Nat) (hg : g = Nat.gcd x.num.natAbs x.den) => have hg1 := (show g = 1 from hg.trans (val_gcd x)); And.intro (fun (h9 : (limbs g).length = 1) => I (by omega : 0 < (limbs g).length) (((val_one hg1).2 : (limbs g).getD 0 0 = 1))) (fun (h10 : ¬ ((limbs g).length = 1)) => (h10 (val_one hg1).1 : False))) (Nat.gcd x.num.natAbs x.den) rfl))) (fun (h11 : ¬ ((limbs x.num.natAbs).length = 0)) => (fun (g : Nat) (hg : g = Nat.gcd x.num.natAbs x.den) => have hg1 := (show g = 1 from hg.trans (val_gcd x)); And.intro (fun (h12 : (limbs g).length = 1) => I (by omega : 0 < (limbs g).length) (((val_one hg1).2 : (limbs g).getD 0 0 = 1))) (fun (h13 : ¬ ((limbs g).length = 1)) => (h13 (val_one hg1).1 : False))) (Nat.gcd x.num.natAbs x.den) rfl)))) (fun (h14 : ¬ ((denL x.den).length = 1)) => And.intro (fun (h15 : (limbs x.num.natAbs).length = 0) => And.intro (fun (h16 : x.num < 0) => (val_neg h15 h16 : False)) (fun (h17 : ¬ (x.num < 0)) => And.intro (fun (h18 : 0 < (denL x.den).length) => (val_zden h15 h18 : False)) (fun (h19 : ¬ (0 < (denL x.den).length)) => (fun (g : Nat) (hg : g = Nat.gcd x.num.natAbs x.den) => have hg1 := (show g = 1 from hg.trans (val_gcd x)); And.intro (fun (h20 : (limbs g).length = 1) => I (by omega : 0 < (limbs g).length) (((val_one hg1).2 : (limbs g).getD 0 0 = 1))) (fun (h21 : ¬ ((limbs g).length = 1)) => (h21 (val_one hg1).1 : False))) (Nat.gcd x.num.natAbs x.den) rfl))) (fun (h22 : ¬ ((limbs x.num.natAbs).length = 0)) => (fun (g : Nat) (hg : g = Nat.gcd x.num.natAbs x.den) => have hg1 := (show g = 1 from hg.trans (val_gcd x)); And.intro (fun (h23 : (limbs g).length = 1) => I (by omega : 0 < (limbs g).length) (((val_one hg1).2 : (limbs g).getD 0 0 = 1))) (fun (h24 : ¬ ((limbs g).length = 1)) => (h24 (val_one hg1).1 : False))) (Nat.gcd x.num.natAbs x.den) rfl)))))⟩)
abbrev yvalid_c : Ctr Tryz.prog := FI.c yvalid_k
end Go.Proofs.YtcjgaaibflcdiaaGreat.Sx

namespace Go.Proofs.YtcjgaaibflcdiaaGreat.Sx
open Go Go.Proofs
set_option linter.unusedVariables false
set_option linter.unusedSimpArgs false
set_option maxRecDepth 20000
set_option maxHeartbeats 4000000
abbrev yvalids_i : FI := ⟨67, [(.sl .rat)], [(.s 1048576 (.n 68719476736))], fun _ => [], fun b z => .c (.one (.vl (.bool true)))⟩
theorem yvalids_k : yvalids_i.OK Tryz.prog := mkF hmix 16 Tryz.func67 rfl rfl (by decide) [(69, .c yvalid_c)] (fun _ => rfl) (fun _ => rfl) (fun _ _ => rfl) (fun (l : List Rat) b hx hp => vl_ok rfl) (fun (l : List Rat) hx hp => by
 have hl0 : l.length ≤ 1048576 := hx.1
 exact ⟨.loop [.s 3 (.nat .i64) (.n 1048576)] (fun (i : Nat) => i ≤ l.length) (fun (i : Nat) => l.length - i) (fun (i : Nat) => .nil), kcast (by kernel_rfl) (I (Nat.zero_le _ : 0 ≤ l.length) (fun (i : Nat) (hb1 : HB [.s 3 (.nat .i64) (.n 1048576)] i) (hI : i ≤ l.length) => have hv4 := (show i ≤ 1048576 from hb1); And.intro (fun (h2 : i < l.length) => I (by omega : i < l.length) (I (show (i + 1) ≤ 1048576 by omega : Bnd (.nat .i64) (.n 1048576) (i + 1)) (And.intro ((by omega) : (i + 1) ≤ l.length) (by omega : l.length - (i + 1) < l.length - i)))) (fun (h3 : ¬ (i < l.length)) => trivial)))⟩)
abbrev yvalids_c : Ctr Tryz.prog := FI.c yvalids_k
abbrev vvalid_i : FI := ⟨68, [(.pr .rat (.pr .rat .rat))], [(.p (.n 68719476736) (.p (.n 68719476736) (.n 68719476736)))], fun _ => [], fun b z => .c (.one (.vl (.bool true)))⟩
theorem vvalid_k : vvalid_i.OK Tryz.prog := mkF hmix 16 Tryz.func68 rfl rfl (by decide) [(69, .c yvalid_c)] (fun _ => rfl) (fun _ => rfl) (fun _ _ => rfl) (fun (p : Rat × Rat × Rat) b hx hp => vl_ok rfl) (fun (p : Rat × Rat × Rat) hx hp => by
 exact ⟨.nil, kcast (by kernel_rfl) (trivial)⟩)
abbrev vvalid_c : Ctr Tryz.prog := FI.c vvalid_k
abbrev kpoles_i : FI := ⟨71, [(.sl .rat), (.int .i64)], [(.s 1048576 (.n 68719476736)), (.n 1099511627776)], fun _ => [], fun b z => (fun (k : List Rat) (d : Int) => .c (.one (.dt (.int .i64) (.n ((b0 b).len + (b1 b).nb + 1)) ((k.length : Int) - d - 1)))) z.1 z.2⟩
theorem kpoles_k : kpoles_i.OK Tryz.prog := mkF hmix 10 Tryz.func71 rfl rfl (by decide) [] (fun _ => rfl) (fun _ => rfl) (fun _ _ => rfl) (fun (k : List Rat) (d : Int) b hx hp => one_ok (show Int.natAbs ((k.length : Int) - d - 1) ≤ (b0 b).len + (b1 b).nb + 1 from by have h1 := (Bnds.h2 hx).1.slm.1; have h2 := (Bnds.h2 hx).2.int; omega) rfl) (fun (k : List Rat) (d : Int) hx hp => by
 have hl0 : k.length ≤ 1048576 := hx.1.1
 have hx1 : Int.natAbs d ≤ 1099511627776 := hx.2
 exact ⟨.nil, kcast (by kernel_rfl) ((by omega : (((k.length : Nat) : Int) - d) - 1 = ((k.length : Nat) : Int) - d - 1))⟩)
abbrev kpoles_c : Ctr Tryz.prog := FI.c kpoles_k
abbrev kdst_i : FI := ⟨123, [(.sl .rat)], [(.s 1048576 (.n 68719476736))], fun _ => [], fun b z => (fun (k : List Rat) => .c (.one (.dt (.sl .rat) (.s ((b0 b).len) (.n ((b0 b).mx))) (dst k)))) z⟩
theorem kdst_k : kdst_i.OK Tryz.prog := mkF hmix 34 Tryz.func123 rfl rfl (by decide) [(17, .c ysame_c)] (fun _ => rfl) (fun _ => rfl) (fun _ _ => rfl) (fun (k : List Rat) b hx hp => one_ok (dst_b (Bnds.h1 hx)) rfl) (fun (k : List Rat) hx hp => by
 have hl0 : k.length ≤ 1048576 := hx.1
 exact ⟨.loop [.s 4 (.nat .i64) (.n 1048576), .g 3 90003 .rat (.n 68719476736) 1048576] (fun ((i, out) : Nat × List Rat) => out = dstN k i ∧ i ≤ k.length) (fun ((i, out) : Nat × List Rat) => k.length - i) (fun ((i, out) : Nat × List Rat) => .cond (.cond (.h 6 5 (.mk (.im .rat (.n 68719476736))) (.nil)) (.h 5 9 (.i .sub) (.cond (.h 6 5 (.mk (.im .rat (.n 68719476736))) (.nil)) (.nil)))) (.pre 999999 (.frz 90003 true [2]) (.nil))), kcast (by kernel_rfl) (I (rfl : 0 = ([] : List Rat).length) (I (⟨rfl, Nat.zero_le _⟩ : ([] : List Rat) = dstN k 0 ∧ 0 ≤ k.length) (fun (i : Nat) (out : List Rat) (hb1 : HB [.s 4 (.nat .i64) (.n 1048576), .g 3 90003 .rat (.n 68719476736) 1048576] (i, out)) (hI : out = dstN k i ∧ i ≤ k.length) => have hv8 := (show i ≤ 1048576 from hb1.1); have hv9 := (show out.length ≤ 1048576 from hb1.2.1); have hIo := hI.1; have hIi := hI.2; have hIl := (show out.length ≤ i from hI.1 ▸ dstN_len k i); And.intro (fun (h2 : i < k.length) => And.intro (fun (h3 : i = 0) => I (by omega : i < k.length) (I (by omega : out.length = out.length) (I (show (i + 1) ≤ 1048576 by omega : Bnd (.nat .i64) (.n 1048576) (i + 1)) (I (by (try simp only [List.length_append, List.length_cons, List.length_nil]) <;> omega : out.length + [k.getD i 0].length = (out ++ [k.getD i 0]).length) (I (by (try simp only [List.length_append, List.length_cons, List.length_nil]) <;> omega : out.length + [k.getD i 0].length ≤ 1048576) (And.intro (⟨by rw [hIo]; exact dst_yes (.inl h3), by omega⟩ : (out ++ [k.getD i 0]) = dstN k (i + 1) ∧ (i + 1) ≤ k.length) (by omega : k.length - (i + 1) < k.length - i))))))) (fun (h4 : ¬ (i = 0)) => I (by omega : i < k.length) (I (by omega : 1 ≤ i) (I (by omega : i - 1 < k.length) (And.intro (fun (h5 : (!(decide ((k.getD i 0) = (k.getD (i - 1) 0)))) = true) => I (by omega : i < k.length) (I (by omega : out.length = out.length) (I (show (i + 1) ≤ 1048576 by omega : Bnd (.nat .i64) (.n 1048576) (i + 1)) (I (by (try simp only [List.length_append, List.length_cons, List.length_nil]) <;> omega : out.length + [k.getD i 0].length = (out ++ [k.getD i 0]).length) (I (by (try simp only [List.length_append, List.length_cons, List.length_nil]) <;> omega : out.length + [k.getD i 0].length ≤ 1048576) (And.intro (⟨by rw [hIo]; exact dst_yes (.inr (nd h5)), by omega⟩ : (out ++ [k.getD i 0]) = dstN k (i + 1) ∧ (i + 1) ≤ k.length) (by omega : k.length - (i + 1) < k.length - i))))))) (fun (h6 : ¬ ((!(decide ((k.getD i 0) = (k.getD (i - 1) 0)))) = true)) => I (show (i + 1) ≤ 1048576 by omega : Bnd (.nat .i64) (.n 1048576) (i + 1)) (I (by omega : out.length = out.length) (And.intro (⟨by rw [hIo]; exact dst_no h4 (nd' h6), by omega⟩ : out = dstN k (i + 1) ∧ (i + 1) ≤ k.length) (by omega : k.length - (i + 1) < k.length - i))))))))) (fun (h7 : ¬ (i < k.length)) => I (by omega : out.length = out.length) ((hIo.trans (by rw [show i = k.length by omega]) : out = dst k))))))⟩)
abbrev kdst_c : Ctr Tryz.prog := FI.c kdst_k
end Go.Proofs.YtcjgaaibflcdiaaGreat.Sx

namespace Go.Proofs.YtcjgaaibflcdiaaGreat.Sx
open Go Go.Proofs
set_option linter.unusedVariables false
set_option linter.unusedSimpArgs false
set_option maxRecDepth 20000
set_option maxHeartbeats 4000000
abbrev ktimes_i : FI := ⟨124, [(.sl .rat), .rat], [(.s 1048576 (.n 68719476736)), (.n 68719476736)], fun _ => [], fun b z => (fun (k : List Rat) (t : Rat) => .c (.one (.dt (.nat .i64) (.n (b0 b).len) (timesN k t k.length)))) z.1 z.2⟩
theorem ktimes_k : ktimes_i.OK Tryz.prog := mkF hmix 22 Tryz.func124 rfl rfl (by decide) [(17, .c ysame_c)] (fun _ => rfl) (fun _ => rfl) (fun _ _ => rfl) (fun (k : List Rat) (t : Rat) b hx hp => one_ok (show timesN k t k.length ≤ (b0 b).len from Nat.le_trans (timesN_le k t _) (Bnds.h2 hx).1.slm.1) rfl) (fun (k : List Rat) (t : Rat) hx hp => by
 have hl0 : k.length ≤ 1048576 := hx.1.1
 exact ⟨.loop [.s 6 (.nat .i64) (.n 1048576), .s 5 (.nat .i64) (.n 1048576)] (fun ((i, m) : Nat × Nat) => m = timesN k t i ∧ i ≤ k.length) (fun ((i, m) : Nat × Nat) => k.length - i) (fun ((i, m) : Nat × Nat) => .nil), kcast (by kernel_rfl) (I (⟨rfl, Nat.zero_le _⟩ : 0 = timesN k t 0 ∧ 0 ≤ k.length) (fun (i : Nat) (m : Nat) (hb1 : HB [.s 6 (.nat .i64) (.n 1048576), .s 5 (.nat .i64) (.n 1048576)] (i, m)) (hI : m = timesN k t i ∧ i ≤ k.length) => have hv6 := (show i ≤ 1048576 from hb1.1); have hv7 := (show m ≤ 1048576 from hb1.2); have hIi := hI.2; have hIl := (show m ≤ i from hI.1 ▸ timesN_le k t i); And.intro (fun (h2 : i < k.length) => I (by omega : i < k.length) (And.intro (fun (h3 : decide ((k.getD i 0) = t) = true) => I (show (i + 1) ≤ 1048576 by omega : Bnd (.nat .i64) (.n 1048576) (i + 1)) (I (show (m + 1) ≤ 1048576 by omega : Bnd (.nat .i64) (.n 1048576) (m + 1)) (And.intro (⟨by rw [timesN, if_pos (yd h3), hI.1], by omega⟩ : (m + 1) = timesN k t (i + 1) ∧ (i + 1) ≤ k.length) (by omega : k.length - (i + 1) < k.length - i)))) (fun (h4 : ¬ (decide ((k.getD i 0) = t) = true)) => I (show (i + 1) ≤ 1048576 by omega : Bnd (.nat .i64) (.n 1048576) (i + 1)) (And.intro (⟨by rw [timesN, if_neg (yd' h4), hI.1], by omega⟩ : m = timesN k t (i + 1) ∧ (i + 1) ≤ k.length) (by omega : k.length - (i + 1) < k.length - i))))) (fun (h5 : ¬ (i < k.length)) => (by rw [hI.1, show i = k.length by omega] : m = timesN k t k.length))))⟩)
abbrev ktimes_c : Ctr Tryz.prog := FI.c ktimes_k
abbrev kcheck_i : FI := ⟨70, [(.sl .rat), (.int .i64)], [(.s 1048576 (.n 68719476736)), (.n 1099511627776)], fun _ => [], fun b z => (fun (k : List Rat) (d : Int) => .c (.one (.dt (.int .i64) (.n 5) (chkK k d)))) z.1 z.2⟩
theorem kcheck_k : kcheck_i.OK Tryz.prog := mkF hmix 96 Tryz.func70 rfl rfl (by decide) [(25, .c ycmp_c), (71, .c kpoles_c), (123, .c kdst_c), (124, .c ktimes_c)] (fun _ => rfl) (fun _ => rfl) (fun _ _ => rfl) (fun (k : List Rat) (d : Int) b hx hp => one_ok (chkK_b k d) rfl) (fun (k : List Rat) (d : Int) hx hp => by
 have hl0 : k.length ≤ 1048576 := hx.1.1
 have hx1 : Int.natAbs d ≤ 1099511627776 := hx.2
 exact ⟨.cond (.nil) (.cond (.nil) (.cond (.nil) (.cond (.nil) (.loop [.s 5 (.nat .i64) (.n 1048576)] (fun (i : Nat) => srtN k i = true ∧ 1 ≤ i ∧ i ≤ k.length) (fun (i : Nat) => k.length - i) (fun (i : Nat) => .cond (.h 10 6 (.i .sub) (.nil)) (.loop [.s 7 (.nat .i64) (.n 1048576)] (fun (i2 : Nat) => okN k d i2 = true ∧ i2 ≤ (dst k).length) (fun (i2 : Nat) => (dst k).length - i2) (fun (i2 : Nat) => .cond (.cond (.cond (.nil) (.cond (.nil) (.cond (.h 17 28 (.i .sub) (.nil)) (.nil)))) (.h 17 6 (.i .sub) (.cond (.cond (.nil) (.cond (.nil) (.cond (.h 17 28 (.i .sub) (.nil)) (.nil)))) (.cond (.nil) (.cond (.h 17 28 (.i .sub) (.nil)) (.nil)))))) (.nil)))))))), kcast (by kernel_rfl) (And.intro (fun (h1 : d < 1) => (chk_1 (by omega) : 1 = chkK k d)) (fun (h2 : ¬ (d < 1)) => And.intro (fun (h3 : 6 < d) => (chk_1 (by omega) : 1 = chkK k d)) (fun (h4 : ¬ (6 < d)) => And.intro (fun (h5 : ((k.length : Nat) : Int) < (2 * d) + 2) => (chk_2 (by omega) h5 : 5 = chkK k d)) (fun (h6 : ¬ (((k.length : Nat) : Int) < (2 * d) + 2)) => And.intro (fun (h7 : 40 < ((k.length : Nat) : Int) - d - 1) => (chk_3 (by omega) (by omega) (by omega) : 2 = chkK k d)) (fun (h8 : ¬ (40 < ((k.length : Nat) : Int) - d - 1)) => I (⟨rfl, Nat.le_refl 1, by omega⟩ : srtN k 1 = true ∧ 1 ≤ 1 ∧ 1 ≤ k.length) (fun (i : Nat) (hb9 : HB [.s 5 (.nat .i64) (.n 1048576)] i) (hI : srtN k i = true ∧ 1 ≤ i ∧ i ≤ k.length) => have hv52 := (show i ≤ 1048576 from hb9); have hI1 := hI.2.1; have hI2 := hI.2.2; And.intro (fun (h10 : i < k.length) => I (by omega : i < k.length) (I (by omega : 1 ≤ i) (I (by omega : i - 1 < k.length) (And.intro (fun (h11 : cmpQ (k.getD i 0) (k.getD (i - 1) 0) < 0) => (chk_4 (by omega) (by omega) (by omega) (srtN_no hI1 h11 (by omega)) : 5 = chkK k d)) (fun (h12 : ¬ (cmpQ (k.getD i 0) (k.getD (i - 1) 0) < 0)) => I (show (i + 1) ≤ 1048576 by omega : Bnd (.nat .i64) (.n 1048576) (i + 1)) (And.intro (⟨srtN_yes hI.1 h12, by omega, by omega⟩ : srtN k (i + 1) = true ∧ 1 ≤ (i + 1) ∧ (i + 1) ≤ k.length) (by omega : k.length - (i + 1) < k.length - i))))))) (fun (h13 : ¬ (i < k.length)) => I (⟨rfl, Nat.zero_le _⟩ : okN k d 0 = true ∧ 0 ≤ (dst k).length) (fun (i2 : Nat) (hb14 : HB [.s 7 (.nat .i64) (.n 1048576)] i2) (hJ : okN k d i2 = true ∧ i2 ≤ (dst k).length) => have hv51 := (show i2 ≤ 1048576 from hb14); have hJ1 := hJ.2; have hdl := (show (dst k).length ≤ k.length from dstN_len k k.length); And.intro (fun (h15 : i2 < (dst k).length) => I (by omega : i2 < (dst k).length) (And.intro (fun (h16 : i2 = 0) => And.intro (fun (h17 : ((timesN k ((dst k).getD i2 0) k.length : Nat) : Int) ≠ d + 1) => (chk_5 (by omega) (by omega) (by omega) (by rw [show k.length = i by omega]; exact hI.1) (okN_no (i := i2) (by unfold badM; omega) (by omega)) : 5 = chkK k d)) (fun (h18 : ¬ (((timesN k ((dst k).getD i2 0) k.length : Nat) : Int) ≠ d + 1)) => And.intro (fun (h19 : d + 1 < ((timesN k ((dst k).getD i2 0) k.length : Nat) : Int)) => (chk_5 (by omega) (by omega) (by omega) (by rw [show k.length = i by omega]; exact hI.1) (okN_no (i := i2) (by unfold badM; omega) (by omega)) : 5 = chkK k d)) (fun (h20 : ¬ (d + 1 < ((timesN k ((dst k).getD i2 0) k.length : Nat) : Int))) => And.intro (fun (h21 : 0 < i2) => I (by omega : 1 ≤ (dst k).length) (And.intro (fun (h22 : i2 < ((dst k).length) - 1) => And.intro (fun (h23 : d < ((timesN k ((dst k).getD i2 0) k.length : Nat) : Int)) => (chk_5 (by omega) (by omega) (by omega) (by rw [show k.length = i by omega]; exact hI.1) (okN_no (i := i2) (by unfold badM; omega) (by omega)) : 5 = chkK k d)) (fun (h24 : ¬ (d < ((timesN k ((dst k).getD i2 0) k.length : Nat) : Int))) => I (show (i2 + 1) ≤ 1048576 by omega : Bnd (.nat .i64) (.n 1048576) (i2 + 1)) (And.intro (⟨okN_yes hJ.1 (by unfold badM; omega), by omega⟩ : okN k d (i2 + 1) = true ∧ (i2 + 1) ≤ (dst k).length) (by omega : (dst k).length - (i2 + 1) < (dst k).length - i2)))) (fun (h25 : ¬ (i2 < ((dst k).length) - 1)) => I (show (i2 + 1) ≤ 1048576 by omega : Bnd (.nat .i64) (.n 1048576) (i2 + 1)) (And.intro (⟨okN_yes hJ.1 (by unfold badM; omega), by omega⟩ : okN k d (i2 + 1) = true ∧ (i2 + 1) ≤ (dst k).length) (by omega : (dst k).length - (i2 + 1) < (dst k).length - i2))))) (fun (h26 : ¬ (0 < i2)) => I (show (i2 + 1) ≤ 1048576 by omega : Bnd (.nat .i64) (.n 1048576) (i2 + 1)) (And.intro (⟨okN_yes hJ.1 (by unfold badM; omega), by omega⟩ : okN k d (i2 + 1) = true ∧ (i2 + 1) ≤ (dst k).length) (by omega : (dst k).length - (i2 + 1) < (dst k).length - i2)))))) (fun (h27 : ¬ (i2 = 0)) => I (by omega : 1 ≤ (dst k).length) (And.intro (fun (h28 : i2 = ((dst k).length) - 1) => And.intro (fun (h29 : ((timesN k ((dst k).getD i2 0) k.length : Nat) : Int) ≠ d + 1) => (chk_5 (by omega) (by omega) (by omega) (by rw [show k.length = i by omega]; exact hI.1) (okN_no (i := i2) (by unfold badM; omega) (by omega)) : 5 = chkK k d)) (fun (h30 : ¬ (((timesN k ((dst k).getD i2 0) k.length : Nat) : Int) ≠ d + 1)) => And.intro (fun (h31 : d + 1 < ((timesN k ((dst k).getD i2 0) k.length : Nat) : Int)) => (chk_5 (by omega) (by omega) (by omega) (by rw [show k.length = i by omega]; exact hI.1) (okN_no (i := i2) (by unfold badM; omega) (by omega)) : 5 = chkK k d)) (fun (h32 : ¬ (d + 1 < ((timesN k ((dst k).getD i2 0) k.length : Nat) : Int))) => And.intro (fun (h33 : 0 < i2) => I (by omega : 1 ≤ (dst k).length) (And.intro (fun (h34 : i2 < ((dst k).length) - 1) => And.intro (fun (h35 : d < ((timesN k ((dst k).getD i2 0) k.length : Nat) : Int)) => (chk_5 (by omega) (by omega) (by omega) (by rw [show k.length = i by omega]; exact hI.1) (okN_no (i := i2) (by unfold badM; omega) (by omega)) : 5 = chkK k d)) (fun (h36 : ¬ (d < ((timesN k ((dst k).getD i2 0) k.length : Nat) : Int))) => I (show (i2 + 1) ≤ 1048576 by omega : Bnd (.nat .i64) (.n 1048576) (i2 + 1)) (And.intro (⟨okN_yes hJ.1 (by unfold badM; omega), by omega⟩ : okN k d (i2 + 1) = true ∧ (i2 + 1) ≤ (dst k).length) (by omega : (dst k).length - (i2 + 1) < (dst k).length - i2)))) (fun (h37 : ¬ (i2 < ((dst k).length) - 1)) => I (show (i2 + 1) ≤ 1048576 by omega : Bnd (.nat .i64) (.n 1048576) (i2 + 1)) (And.intro (⟨okN_yes hJ.1 (by unfold badM; omega), by omega⟩ : okN k d (i2 + 1) = true ∧ (i2 + 1) ≤ (dst k).length) (by omega : (dst k).length - (i2 + 1) < (dst k).length - i2))))) (fun (h38 : ¬ (0 < i2)) => I (show (i2 + 1) ≤ 1048576 by omega : Bnd (.nat .i64) (.n 1048576) (i2 + 1)) (And.intro (⟨okN_yes hJ.1 (by unfold badM; omega), by omega⟩ : okN k d (i2 + 1) = true ∧ (i2 + 1) ≤ (dst k).length) (by omega : (dst k).length - (i2 + 1) < (dst k).length - i2)))))) (fun (h39 : ¬ (i2 = ((dst k).length) - 1)) => And.intro (fun (h40 : d + 1 < ((timesN k ((dst k).getD i2 0) k.length : Nat) : Int)) => (chk_5 (by omega) (by omega) (by omega) (by rw [show k.length = i by omega]; exact hI.1) (okN_no (i := i2) (by unfold badM; omega) (by omega)) : 5 = chkK k d)) (fun (h41 : ¬ (d + 1 < ((timesN k ((dst k).getD i2 0) k.length : Nat) : Int))) => And.intro (fun (h42 : 0 < i2) => I (by omega : 1 ≤ (dst k).length) (And.intro (fun (h43 : i2 < ((dst k).length) - 1) => And.intro (fun (h44 : d < ((timesN k ((dst k).getD i2 0) k.length : Nat) : Int)) => (chk_5 (by omega) (by omega) (by omega) (by rw [show k.length = i by omega]; exact hI.1) (okN_no (i := i2) (by unfold badM; omega) (by omega)) : 5 = chkK k d)) (fun (h45 : ¬ (d < ((timesN k ((dst k).getD i2 0) k.length : Nat) : Int))) => I (show (i2 + 1) ≤ 1048576 by omega : Bnd (.nat .i64) (.n 1048576) (i2 + 1)) (And.intro (⟨okN_yes hJ.1 (by unfold badM; omega), by omega⟩ : okN k d (i2 + 1) = true ∧ (i2 + 1) ≤ (dst k).length) (by omega : (dst k).length - (i2 + 1) < (dst k).length - i2)))) (fun (h46 : ¬ (i2 < ((dst k).length) - 1)) => I (show (i2 + 1) ≤ 1048576 by omega : Bnd (.nat .i64) (.n 1048576) (i2 + 1)) (And.intro (⟨okN_yes hJ.1 (by unfold badM; omega), by omega⟩ : okN k d (i2 + 1) = true ∧ (i2 + 1) ≤ (dst k).length) (by omega : (dst k).length - (i2 + 1) < (dst k).length - i2))))) (fun (h47 : ¬ (0 < i2)) => I (show (i2 + 1) ≤ 1048576 by omega : Bnd (.nat .i64) (.n 1048576) (i2 + 1)) (And.intro (⟨okN_yes hJ.1 (by unfold badM; omega), by omega⟩ : okN k d (i2 + 1) = true ∧ (i2 + 1) ≤ (dst k).length) (by omega : (dst k).length - (i2 + 1) < (dst k).length - i2))))))))) (fun (h48 : ¬ (i2 < (dst k).length)) => And.intro (fun (h49 : (dst k).length < 2) => (chk_6 (by omega) (by omega) (by omega) (by rw [show k.length = i by omega]; exact hI.1) (by rw [show (dst k).length = i2 by omega]; exact hJ.1) (by omega) : 5 = chkK k d)) (fun (h50 : ¬ ((dst k).length < 2)) => (chk_7 (by omega) (by omega) (by omega) (by rw [show k.length = i by omega]; exact hI.1) (by rw [show (dst k).length = i2 by omega]; exact hJ.1) (by omega) : 0 = chkK k d)))))))))))⟩)
abbrev kcheck_c : Ctr Tryz.prog := FI.c kcheck_k
end Go.Proofs.YtcjgaaibflcdiaaGreat.Sx

namespace Go.Proofs.YtcjgaaibflcdiaaGreat.Sx
open Go Go.Proofs
set_option linter.unusedVariables false
set_option linter.unusedSimpArgs false
set_option maxRecDepth 20000
set_option maxHeartbeats 4000000
abbrev ybits_i : FI := ⟨125, [.rat], [(.n 68719476736)], fun _ => [], fun b z => (fun (x : Rat) => .c (.one (.dt (.int .i64) (.n (2 * (b0 b).nb + 1)) ((bitsQ x : Nat) : Int)))) z⟩
theorem ybits_k : ybits_i.OK Tryz.prog := mkF hmix 10 Tryz.func125 rfl rfl (by decide) [(78, .c yden_c), (175, .c xbits_c)] (fun _ => rfl) (fun _ => rfl) (fun _ _ => rfl) (fun (x : Rat) b hx hp => one_ok (show Int.natAbs ((bitsQ x : Nat) : Int) ≤ 2 * (b0 b).nb + 1 from by have := bitsQ_ok (rat_mx (Bnds.h1 hx) (Nat.le_refl _)); omega) rfl) (fun (x : Rat) hx hp => by
 exact ⟨.nil, kcast (by kernel_rfl) ((by unfold bitsQ; omega : max ((bl x.num.natAbs : Nat) : Int) ((bl x.den : Nat) : Int) = ((bitsQ x : Nat) : Int)))⟩)
abbrev ybits_c : Ctr Tryz.prog := FI.c ybits_k
abbrev kshort_i : FI := ⟨72, [(.sl .rat)], [(.s 1048576 (.n 2047))], fun _ => [], fun b z => .c (.one (.vl (.bool true)))⟩
theorem kshort_k : kshort_i.OK Tryz.prog := mkF hmix 16 Tryz.func72 rfl rfl (by decide) [(125, .c ybits_c)] (fun _ => rfl) (fun _ => rfl) (fun _ _ => rfl) (fun (l : List Rat) b hx hp => vl_ok rfl) (fun (l : List Rat) hx hp => by
 have hl0 : l.length ≤ 1048576 := hx.1
 have he0 : ∀ u ∈ l, Bnd .rat (.n 2047) u := hx.2
 exact ⟨.loop [.s 3 (.nat .i64) (.n 1048576)] (fun (i : Nat) => i ≤ l.length) (fun (i : Nat) => l.length - i) (fun (i : Nat) => .cond (.cond (.dead) (.nil)) (.nil)), kcast (by kernel_rfl) (I (Nat.zero_le _ : 0 ≤ l.length) (fun (i : Nat) (hb1 : HB [.s 3 (.nat .i64) (.n 1048576)] i) (hI : i ≤ l.length) => have hv6 := (show i ≤ 1048576 from hb1); And.intro (fun (h2 : i < l.length) => I (by omega : i < l.length) (And.intro (fun (h3 : 2048 < ((bitsQ (l.getD i 0) : Nat) : Int)) => (absurd h3 (by have := bitsQ_ok (getD_bn he0 i); omega) : False)) (fun (h4 : ¬ (2048 < ((bitsQ (l.getD i 0) : Nat) : Int))) => I (show (i + 1) ≤ 1048576 by omega : Bnd (.nat .i64) (.n 1048576) (i + 1)) (And.intro ((by omega) : (i + 1) ≤ l.length) (by omega : l.length - (i + 1) < l.length - i))))) (fun (h5 : ¬ (i < l.length)) => trivial)))⟩)
abbrev kshort_c : Ctr Tryz.prog := FI.c kshort_k
abbrev kshortp_i : FI := ⟨73, [(.sl (.pr (.pr .rat (.pr .rat .rat)) .rat))], [(.s 1048576 (.p (.p (.n 2047) (.p (.n 2047) (.n 2047))) (.n 2047)))], fun _ => [], fun b z => .c (.one (.vl (.bool true)))⟩
theorem kshortp_k : kshortp_i.OK Tryz.prog := mkF hmix 36 Tryz.func73 rfl rfl (by decide) [(72, .c kshort_c)] (fun _ => rfl) (fun _ => rfl) (fun _ _ => rfl) (fun (l : List ((Rat × Rat × Rat) × Rat)) b hx hp => vl_ok rfl) (fun (l : List ((Rat × Rat × Rat) × Rat)) hx hp => by
 have hl0 : l.length ≤ 1048576 := hx.1
 exact ⟨.loop [.s 3 (.nat .i64) (.n 1048576)] (fun (i : Nat) => i ≤ l.length) (fun (i : Nat) => l.length - i) (fun (i : Nat) => .cond (.h 4 23 (.mk (.im .rat (.n 2047))) (.nil)) (.nil)), kcast (by kernel_rfl) (I (Nat.zero_le _ : 0 ≤ l.length) (fun (i : Nat) (hb1 : HB [.s 3 (.nat .i64) (.n 1048576)] i) (hI : i ≤ l.length) => have hv4 := (show i ≤ 1048576 from hb1); And.intro (fun (h2 : i < l.length) => I (by omega : i < l.length) (I (by omega : i < l.length) (I (by omega : i < l.length) (I (by omega : i < l.length) (I (show (i + 1) ≤ 1048576 by omega : Bnd (.nat .i64) (.n 1048576) (i + 1)) (And.intro ((by omega) : (i + 1) ≤ l.length) (by omega : l.length - (i + 1) < l.length - i))))))) (fun (h3 : ¬ (i < l.length)) => trivial)))⟩)
abbrev kshortp_c : Ctr Tryz.prog := FI.c kshortp_k
abbrev ccheck_i : FI := ⟨19, [(.pr (.int .i64) (.pr (.sl .rat) (.sl (.pr (.pr .rat (.pr .rat .rat)) .rat))))], [(.p (.n 1048576) (.p (.s 1048576 (.n 2047)) (.s 1048576 (.p (.p (.n 2047) (.p (.n 2047) (.n 2047))) (.n 2047)))))], fun _ => [], fun b z => (fun (c : Int × List Rat × List ((Rat × Rat × Rat) × Rat)) => .c (.one (.dt (.int .i64) (.n 8) (chkC c)))) z⟩
theorem ccheck_k : ccheck_i.OK Tryz.prog := mkF hmix 77 Tryz.func19 rfl rfl (by decide) [(29, .c ysign_c), (67, .c yvalids_c), (68, .c vvalid_c), (69, .c yvalid_c), (70, .c kcheck_c), (71, .c kpoles_c), (72, .c kshort_c), (73, .c kshortp_c)] (fun _ => rfl) (fun _ => rfl) (fun _ _ => rfl) (fun (c : Int × List Rat × List ((Rat × Rat × Rat) × Rat)) b hx hp => one_ok (chkC_b c) rfl) (fun (c : Int × List Rat × List ((Rat × Rat × Rat) × Rat)) hx hp => by
 have hpl : c.2.2.length ≤ 1048576 := hx.2.2.1
 exact ⟨.loop [.s 3 (.nat .i64) (.n 1048576)] (fun (i : Nat) => i ≤ c.2.2.length) (fun (i : Nat) => c.2.2.length - i) (fun (i : Nat) => .cond (.nil) (.cond (.nil) (.cond (.nil) (.loop [.s 5 (.nat .i64) (.n 1048576)] (fun (j : Nat) => wgtN c.2.2 j = true ∧ j ≤ c.2.2.length) (fun (j : Nat) => c.2.2.length - j) (fun (j : Nat) => .nil))))), kcast (by kernel_rfl) (I (Nat.zero_le _ : 0 ≤ c.2.2.length) (fun (i : Nat) (hb1 : HB [.s 3 (.nat .i64) (.n 1048576)] i) (hI : i ≤ c.2.2.length) => have hv14 := (show i ≤ 1048576 from hb1); And.intro (fun (h2 : i < c.2.2.length) => I (by omega : i < c.2.2.length) (I (by omega : i < c.2.2.length) (I (show (i + 1) ≤ 1048576 by omega : Bnd (.nat .i64) (.n 1048576) (i + 1)) (And.intro ((by omega) : (i + 1) ≤ c.2.2.length) (by omega : c.2.2.length - (i + 1) < c.2.2.length - i))))) (fun (h3 : ¬ (i < c.2.2.length)) => And.intro (fun (h4 : chkK c.2.1 c.1 ≠ 0) => (chc_1 h4 : chkK c.2.1 c.1 = chkC c)) (fun (h5 : ¬ (chkK c.2.1 c.1 ≠ 0)) => And.intro (fun (h6 : ((c.2.2.length : Nat) : Int) ≠ ((c.2.1.length : Nat) : Int) - c.1 - 1) => (chc_2 h5 h6 : 1 = chkC c)) (fun (h7 : ¬ (((c.2.2.length : Nat) : Int) ≠ ((c.2.1.length : Nat) : Int) - c.1 - 1)) => I (⟨rfl, Nat.zero_le _⟩ : wgtN c.2.2 0 = true ∧ 0 ≤ c.2.2.length) (fun (j : Nat) (hb8 : HB [.s 5 (.nat .i64) (.n 1048576)] j) (hJ : wgtN c.2.2 j = true ∧ j ≤ c.2.2.length) => have hv13 := (show j ≤ 1048576 from hb8); have hJ1 := hJ.2; And.intro (fun (h9 : j < c.2.2.length) => I (by omega : j < c.2.2.length) (And.intro (fun (h10 : sgnQ ((c.2.2.getD j ((0, (0, 0)), 0)).2) ≤ 0) => (chc_3 h5 h7 (wgtN_no h10 (by omega)) : 6 = chkC c)) (fun (h11 : ¬ (sgnQ ((c.2.2.getD j ((0, (0, 0)), 0)).2) ≤ 0)) => I (show (j + 1) ≤ 1048576 by omega : Bnd (.nat .i64) (.n 1048576) (j + 1)) (And.intro (⟨wgtN_yes hJ.1 h11, by omega⟩ : wgtN c.2.2 (j + 1) = true ∧ (j + 1) ≤ c.2.2.length) (by omega : c.2.2.length - (j + 1) < c.2.2.length - j))))) (fun (h12 : ¬ (j < c.2.2.length)) => (chc_4 h5 h7 (by rw [show c.2.2.length = j by omega]; exact hJ.1) : 0 = chkC c))))))))⟩)
abbrev ccheck_c : Ctr Tryz.prog := FI.c ccheck_k
end Go.Proofs.YtcjgaaibflcdiaaGreat.Sx

namespace Go.Proofs.YtcjgaaibflcdiaaGreat.Sx
open Go
set_option linter.unusedVariables false
theorem bi_add64 {a b e : Int} (h : a + b = e) (hb : e.natAbs ≤ 4611686018427387904) : BinIs .add .i64 a b e := by
  show IntKind.wrap .i64 (a + b) = e
  rw [h]; exact wrap_i64 (by omega) (by omega)
theorem tdiv17 {a : Int} (h : a.natAbs ≤ 9223372036854775808) : (Int.tdiv a 17).natAbs ≤ 1152921504606846976 := by
  rw [Int.natAbs_tdiv]
  show a.natAbs / 17 ≤ _
  omega
theorem bi_part {a : Int} (h : a.natAbs ≤ 9223372036854775808) : BinIs .quo .i64 a 17 (Int.tdiv a 17) :=
  ⟨by decide, wrap_i64 (by have := tdiv17 h; omega) (by have := tdiv17 h; omega)⟩
abbrev F4 : Type := Rat × Rat × Rat × Rat
abbrev tF4 : Ty := .pr .rat (.pr .rat (.pr .rat .rat))
abbrev bF4 (m : Nat) : Bd := .p (.n m) (.p (.n m) (.p (.n m) (.n m)))
def liftP (p : Pole) : F4 := (p.2 * p.1.1, p.2 * p.1.2.1, p.2 * p.1.2.2, p.2)
def dropP (h : F4) : Pole := (scaleV (((1 : Int) : Rat) / h.2.2.2) (h.1, h.2.1, h.2.2.1), h.2.2.2)
theorem f4_le {x : F4} {a c : Nat} (h : Bnd tF4 (bF4 a) x) (hm : a ≤ c) : Bnd tF4 (bF4 c) x := ⟨rat_le h.1 hm, rat_le h.2.1 hm, rat_le h.2.2.1 hm, rat_le h.2.2.2 hm⟩
theorem liftP_b {p : Pole} {b : Bd} (h : Bnd (.pr tV3 .rat) b p) : Bnd tF4 (bF4 (2 * b.mx)) (liftP p) := by
  have hw : Bnd .rat (.n b.mx) p.2 := rat_mx h.pr.2 (Nat.le_trans (Bd.nb_mx _) b.r_mx)
  have hv := h.pr.1.v3
  have := b.l_mx
  exact ⟨rat_le (mul_b hw hv.1) (by omega), rat_le (mul_b hw hv.2.1) (by omega), rat_le (mul_b hw hv.2.2) (by omega), rat_le hw (by omega)⟩
theorem dropP_b {h : F4} {b : Bd} (hh : Bnd tF4 b h) : Bnd (.pr tV3 .rat) (.p (bV3 (2 * b.mx + 2)) (.n (2 * b.mx + 2))) (dropP h) := by
  have g1 := hh.pr.1
  have g2 := hh.pr.2.pr.1
  have g3 := hh.pr.2.pr.2.pr.1
  have g4 := hh.pr.2.pr.2.pr.2
  have w : ∀ {c : Bd} {x : Rat}, Bnd .rat c x → c.mx ≤ b.mx → Bnd .rat (.n b.mx) x := fun hx hm => rat_mx hx (Nat.le_trans (Bd.nb_mx _) hm)
  have m1 := b.l_mx; have m2 := b.r_mx; have m3 := b.r.l_mx; have m4 := b.r.r_mx; have m5 := b.r.r.l_mx; have m6 := b.r.r.r_mx
  have k1 := w g1 m1
  have k2 := w g2 (by omega)
  have k3 := w g3 (by omega)
  have k4 := w g4 (by omega)
  have q := div_b (one_b 1 (Nat.le_refl 1)) k4
  exact ⟨⟨rat_le (mul_b q k1) (by omega), rat_le (mul_b q k2) (by omega), rat_le (mul_b q k3) (by omega)⟩, rat_le k4 (by omega)⟩
abbrev d0 : Pole := ((0, 0, 0), 0)
def homS (o : F4) (x : Rat) (h : F4) : F4 := (o.1 + x * h.1, o.2.1 + x * h.2.1, o.2.2.1 + x * h.2.2.1, o.2.2.2 + x * h.2.2.2)
def homN (ps : List Pole) (l : List Rat) (f : Nat) : Nat → F4
  | 0 => (0, 0, 0, 0)
  | n + 1 => homS (homN ps l f n) (l.getD n 0) (liftP (ps.getD (f + n) d0))
theorem homN_b {ps : List Pole} {l : List Rat} {m e : Nat} (hp : ∀ p ∈ ps, Bnd (.pr tV3 .rat) (.p (bV3 m) (.n m)) p) (hl : ∀ v ∈ l, Bnd .rat (.n e) v) (f : Nat) : ∀ n, Bnd tF4 (bF4 (n * (e + 2 * m + 1))) (homN ps l f n)
  | 0 => ⟨zero_bn _, zero_bn _, zero_bn _, zero_bn _⟩
  | n + 1 => by
    have h := homN_b hp hl f n
    have hh : Bnd tF4 (bF4 (2 * m)) (liftP (ps.getD (f + n) d0)) := by
      by_cases hi : f + n < ps.length
      · have := liftP_b (hp _ (show ps.getD (f + n) d0 ∈ ps by rw [getD_len hi]; exact List.getElem_mem hi))
        exact f4_le this (by simp only [Bd.mx]; omega)
      · have : ps.getD (f + n) d0 = d0 := by rw [List.getD_eq_getElem?_getD, List.getElem?_eq_none (by omega)]; rfl
        rw [this]
        have z : ∀ a, (0 : Rat) * a = 0 := fun a => Rat.zero_mul a
        unfold liftP
        simp only [z]
        exact ⟨zero_bn _, zero_bn _, zero_bn _, zero_bn _⟩
    have hx : Bnd .rat (.n e) (l.getD n 0) := getD_bn hl n
    have e1 : (n + 1) * (e + 2 * m + 1) = n * (e + 2 * m + 1) + (e + 2 * m) + 1 := by rw [Nat.add_mul]; omega
    rw [e1]
    have s : ∀ {a c : Rat}, Bnd .rat (.n (n * (e + 2 * m + 1))) a → Bnd .rat (.n (2 * m)) c → Bnd .rat (.n (n * (e + 2 * m + 1) + (e + 2 * m) + 1)) (a + l.getD n 0 * c) := fun ha hc => add_b ha (mul_b hx hc)
    exact ⟨s h.1 hh.1, s h.2.1 hh.2.1, s h.2.2.1 hh.2.2.1, s h.2.2.2 hh.2.2.2⟩
structure EvC (c : Curve) (t : Rat) : Prop where
  kb : Bnd (.sl .rat) (.s 64 (.n 4096)) c.2.1
  pb : ∀ p ∈ c.2.2, Bnd (.pr tV3 .rat) (.p (bV3 4096) (.n 4096)) p
  tb : Bnd .rat (.n 4096) t
  d0 : 0 ≤ c.1
  d6 : c.1 ≤ 6
  kl : 2 * c.1.toNat + 2 ≤ c.2.1.length
  pl : c.2.2.length + c.1.toNat + 1 = c.2.1.length
  iv : ivO c.2.1 t ∨ c.1.toNat ≤ ivI c.2.1 c.1 t
abbrev bvc (c : Curve) (t : Rat) : List Rat := bvlL c.2.1 c.1 t
def homV (c : Curve) (t : Rat) : F4 := homN c.2.2 (bvc c t) (ivI c.2.1 c.1 t - c.1.toNat) (bvc c t).length
def evV (c : Curve) (t : Rat) : V3 := if ivO c.2.1 t then (0, 0, 0) else (dropP (homV c t)).1
theorem bvl_len {k : List Rat} {d : Int} {t : Rat} (h : ¬ ivO k t) : (bvlL k d t).length = d.toNat + 1 := by unfold bvlL; rw [if_neg h]; simp
theorem bvl_le (k : List Rat) (d : Int) (t : Rat) : (bvlL k d t).length ≤ d.toNat + 1 := by unfold bvlL; split <;> simp
theorem bvl_b {k : List Rat} {d : Int} {t : Rat} (hk : ∀ v ∈ k, Bnd .rat (.n 4096) v) (ht : Bnd .rat (.n 4096) t) (hd : d ≤ 6) : ∀ v ∈ bvlL k d t, Bnd .rat (.n 4194304) v := by
  intro v hv
  unfold bvlL at hv
  split at hv
  · cases hv
  · obtain ⟨j, _, rfl⟩ := List.mem_map.1 hv
    exact bsp_bb hk ht _ hd _
def bvN (k : List Rat) (d : Int) (t : Rat) (n : Nat) : List Rat := (List.range n).map fun j => bsp k t (ivI k d t) d.toNat (ivI k d t - d.toNat + j)
theorem bvN_step {k : List Rat} {d : Int} {t : Rat} {n i : Nat} (h : i = ivI k d t - d.toNat + n) : bvN k d t n ++ [bsp k t (ivI k d t) d.toNat i] = bvN k d t (n + 1) := by
  subst h; unfold bvN; rw [List.range_succ, List.map_append]; rfl
theorem bvN_fin {k : List Rat} {d : Int} {t : Rat} (h : ¬ ivO k t) : bvN k d t (d.toNat + 1) = bvlL k d t := by unfold bvlL bvN; rw [if_neg h]
theorem bvN_len (k : List Rat) (d : Int) (t : Rat) (n : Nat) : (bvN k d t n).length = n := by unfold bvN; simp
theorem homV_b {c : Curve} {t : Rat} (h : EvC c t) : Bnd tF4 (bF4 33554432) (homV c t) := by
  refine f4_le (homN_b h.pb (bvl_b (fun v hv => h.kb.2 v hv) h.tb h.d6) _ _) ?_
  have := bvl_le c.2.1 c.1 t
  have := h.d6
  have e : (bvc c t).length ≤ 7 := by show (bvlL _ _ _).length ≤ 7; omega
  have := Nat.mul_le_mul_right (4194304 + 2 * 4096 + 1) e
  omega
theorem evV_b {c : Curve} {t : Rat} (h : EvC c t) : Bnd tV3 (bV3 67108868) (evV c t) := by
  unfold evV; split
  · exact ⟨zero_bn _, zero_bn _, zero_bn _⟩
  · have e : (bF4 33554432).mx = 33554432 := by decide
    exact v3_le (dropP_b (homV_b h)).1 (by omega)
theorem ivE_0 {k : List Rat} {d : Int} {t : Rat} (h : ivE k t ≠ 0) : 0 = ivI k d t - d.toNat := by
  unfold ivE at h; split at h
  · rename_i g; rw [ivI, if_pos g]; omega
  · exact absurd rfl h
theorem ivE_1 {k : List Rat} {d : Int} {t : Rat} (h : ivE k t ≠ 0) : [] = bvlL k d t := by
  unfold ivE at h; split at h
  · rename_i g; rw [bvlL, if_pos g]
  · exact absurd rfl h
theorem ivE_2 {k : List Rat} {t : Rat} (h : ¬ ivE k t ≠ 0) : ¬ ivO k t := fun g => h (by rw [ivE, if_pos g]; decide)
theorem ivE_3 {k : List Rat} {t : Rat} (h : ¬ ivO k t) : 0 = ivE k t := by rw [ivE, if_neg h]
theorem ivI_le2 {k : List Rat} {d : Int} {t : Rat} : ivI k d t ≤ k.length - 2 - d.toNat := by
  unfold ivI; split
  · omega
  · exact ivl_le k t _
theorem homN_bb {c : Curve} {t : Rat} (h : EvC c t) {n f : Nat} (hn : n ≤ 7) : Bnd tF4 (bF4 33554432) (homN c.2.2 (bvc c t) f n) := by
  refine f4_le (homN_b h.pb (bvl_b (fun v hv => h.kb.2 v hv) h.tb h.d6) _ _) ?_
  have := Nat.mul_le_mul_right (4194304 + 2 * 4096 + 1) hn
  omega
theorem evV_0 {c : Curve} {t : Rat} (h : ivE c.2.1 t ≠ 0) : (0, 0, 0) = evV c t := by
  unfold ivE at h; split at h
  · rename_i g; rw [evV, if_pos g]
  · exact absurd rfl h
theorem evV_1 {c : Curve} {t : Rat} (h : ¬ ivE c.2.1 t ≠ 0) : (dropP (homV c t)).1 = evV c t := by rw [evV, if_neg (ivE_2 h)]
theorem cv_pole {c : Curve} {b : Bd} (h : Bnd tCurve b c) (i : Nat) : Bnd tV3 (bV3 b.mx) (c.2.2.getD i d0).1 := by
  have h3 := h.pr.2.pr.2
  by_cases hi : i < c.2.2.length
  · have g := (h3.slm' _ (show c.2.2.getD i d0 ∈ c.2.2 by rw [getD_len hi]; exact List.getElem_mem hi)).pr.1.v3
    have m1 := b.r_mx; have m2 := b.r.r_mx; have m3 := b.r.r.e_mx; have m4 := b.r.r.e.l_mx
    exact ⟨rat_le g.1 (by omega), rat_le g.2.1 (by omega), rat_le g.2.2 (by omega)⟩
  · have : c.2.2.getD i d0 = d0 := by rw [List.getD_eq_getElem?_getD, List.getElem?_eq_none (by omega)]; rfl
    rw [this]; exact ⟨zero_bn _, zero_bn _, zero_bn _⟩
def partD (n : Int) : Int := 1 + Int.tdiv n 17 % 12
def partV (n : Int) : Rat := ((n % (partD n + 1) : Int) : Rat) / ((partD n : Int) : Rat)
theorem partD_r (n : Int) : 1 ≤ partD n ∧ partD n ≤ 12 := by unfold partD; omega
theorem partV_b (n : Int) : Bnd .rat (.n 5) (partV n) := by
  have h := partD_r n
  have h1 : (n % (partD n + 1)).natAbs ≤ 12 := by
    have := Int.emod_nonneg n (show partD n + 1 ≠ 0 by omega)
    have := Int.emod_lt_of_pos n (show 0 < partD n + 1 by omega)
    omega
  have h2 : (partD n).natAbs ≤ 12 := by omega
  exact rat_le (make_bnd h1 h2) (by decide)
theorem partV_01 (n : Int) : 0 ≤ partV n ∧ partV n ≤ 1 := by
  have h := partD_r n
  have a := Int.emod_nonneg n (show partD n + 1 ≠ 0 by omega)
  have b := Int.emod_lt_of_pos n (show 0 < partD n + 1 by omega)
  have p : (0 : Rat) < ((partD n : Int) : Rat) := Rat.intCast_pos.2 (by omega)
  unfold partV
  refine ⟨?_, ?_⟩
  · rw [Rat.div_def]; exact Rat.mul_nonneg (Rat.intCast_nonneg.2 a) (Rat.le_of_lt (Rat.inv_pos.2 p))
  · have q : ((n % (partD n + 1) : Int) : Rat) ≤ ((partD n : Int) : Rat) := Rat.intCast_le_intCast.2 (by omega)
    rw [Rat.div_def]
    have r := Rat.mul_le_mul_of_nonneg_right q (Rat.le_of_lt (Rat.inv_pos.2 p))
    rwa [Rat.mul_inv_cancel _ (fun e => by rw [e] at p; exact absurd p (by decide))] at r
end Go.Proofs.YtcjgaaibflcdiaaGreat.Sx

namespace Go.Proofs.YtcjgaaibflcdiaaGreat.Sx
open Go Go.Proofs
set_option linter.unusedVariables false
set_option linter.unusedSimpArgs false
set_option maxRecDepth 20000
set_option maxHeartbeats 4000000
abbrev kival_i : FI := ⟨74, [(.sl .rat), (.int .i64), .rat], [(.s 1048576 (.n 68719476736)), (.n 1099511627776), (.n 68719476736)], fun z => (fun (k : List Rat) (d : Int) (t : Rat) => [0 ≤ d, d.toNat + 2 ≤ k.length]) z.1 z.2.1 z.2.2, fun b z => (fun (k : List Rat) (d : Int) (t : Rat) => .tup [.one (.dt (.nat .i64) (.n (b0 b).len) (ivI k d t)), .one (.dt (.int .i64) (.n 7) (ivE k t))]) z.1 z.2.1 z.2.2⟩
theorem kival_k : kival_i.OK Tryz.prog := mkF hmix 46 Tryz.func74 rfl rfl (by decide) [(25, .c ycmp_c)] (fun _ => rfl) (fun _ => rfl) (fun _ _ => rfl) (fun (k : List Rat) (d : Int) (t : Rat) b hx hp => tup_cons (one_ok (show ivI k d t ≤ (b0 b).len from Nat.le_trans (ivI_le k d t) (Bnds.h3 hx).1.slm.1) rfl) (tup_cons (one_ok (ivE_b k t) rfl) tup_nil)) (fun (k : List Rat) (d : Int) (t : Rat) hx hp => by
 have hl0 : k.length ≤ 1048576 := hx.1.1
 have hx1 : Int.natAbs d ≤ 1099511627776 := hx.2.1
 have hp0 : 0 ≤ d := hp _ (List.mem_cons_self)
 have hp1 : d.toNat + 2 ≤ k.length := hp _ (List.mem_cons_of_mem _ (List.mem_cons_self))
 exact ⟨.h 1 2 (.i .sub) (.cond (.nil) (.cond (.nil) (.h 4 3 (.i (.n (k.length - 2 - d.toNat) 1048576)) (.loop [.s 9 (.nat .i64) (.n 1048576)] (fun (z : Nat) => IvZ k d t z) (fun (z : Nat) => z) (fun (z : Nat) => .cond (.cond (.h 6 1 (.i .sub) (.nil)) (.nil)) (.nil)))))), kcast (by kernel_rfl) (I (by omega : 1 ≤ k.length) (I (by omega : 0 < k.length) (And.intro (fun (h1 : cmpQ t (k.getD 0 0) < 0) => And.intro ((if_pos (.inl h1)).symm : 0 = ivI k d t) ((if_pos (.inl h1)).symm : 7 = ivE k t)) (fun (h2 : ¬ (cmpQ t (k.getD 0 0) < 0)) => I (by omega : k.length - 1 < k.length) (And.intro (fun (h3 : 0 < cmpQ t (k.getD (k.length - 1) 0)) => And.intro ((if_pos (.inr h3)).symm : 0 = ivI k d t) ((if_pos (.inr h3)).symm : 7 = ivE k t)) (fun (h4 : ¬ (0 < cmpQ t (k.getD (k.length - 1) 0))) => I (bi_sub64 (by omega) (by omega) : BinIs .sub .i64 (((k.length - 1 : Nat) : Int) - d) 1 ((k.length - 2 - d.toNat : Nat) : Int)) (I (by omega : k.length - 2 - d.toNat ≤ 1048576) (I (IvZ.start k d t : IvZ k d t (k.length - 2 - d.toNat)) (fun (z : Nat) (hb5 : HB [.s 9 (.nat .i64) (.n 1048576)] z) (hI : IvZ k d t z) => have hv10 := (show z ≤ 1048576 from hb5); have hIi := hI.hi; And.intro (fun (h6 : 0 < z) => I (by omega : z < k.length) (And.intro (fun (h7 : cmpQ t (k.getD z 0) < 0) => I (by omega : 1 ≤ z) (And.intro (hI.step h6 h7 : IvZ k d t (z - 1)) (by omega : (z - 1) < z))) (fun (h8 : ¬ (cmpQ t (k.getD z 0) < 0)) => And.intro (hI.fin (not_or.2 ⟨h2, h4⟩) (fun _ => h8) : z = ivI k d t) ((if_neg (not_or.2 ⟨h2, h4⟩)).symm : 0 = ivE k t)))) (fun (h9 : ¬ (0 < z)) => And.intro (hI.fin (not_or.2 ⟨h2, h4⟩) (fun e => absurd e h9) : z = ivI k d t) ((if_neg (not_or.2 ⟨h2, h4⟩)).symm : 0 = ivE k t)))))))))))⟩)
abbrev kival_c : Ctr Tryz.prog := FI.c kival_k
abbrev kpart_i : FI := ⟨202, [.rat, .rat], [(.n 68719476736), (.n 68719476736)], fun _ => [], fun b z => (fun (x : Rat) (y : Rat) => .c (.agg [.dt .rat (.n ((b0 b).nb + (b1 b).nb)) (x / y)])) z.1 z.2⟩
theorem kpart_k : kpart_i.OK Tryz.prog := mkF hmix 14 Tryz.func202 rfl rfl (by decide) [(60, .c yquo_c)] (fun _ => rfl) (fun _ => rfl) (fun _ _ => rfl) (fun (x : Rat) (y : Rat) b hx hp => agg_rat (quo_bnd (Bnds.h2 hx).1 (Bnds.h2 hx).2)) (fun (x : Rat) (y : Rat) hx hp => by
 exact ⟨.nil, kcast (by kernel_rfl) ((Eq.refl (x / y)))⟩)
abbrev kpart_c : Ctr Tryz.prog := FI.c kpart_k
abbrev kfun_i (n : Nat) : FI := ⟨176, [(.sl .rat), (.nat .i64), (.int .i64), (.nat .i64), .rat], [(.s 1048576 (.n 16384)), (.n 2097152), (.n 8), (.n 2097152), (.n 16384)], fun z => (fun (k : List Rat) (i : Nat) (d : Int) (at_ : Nat) (t : Rat) => [d.toNat < n, Bnd (.sl .rat) (.s 64 (.n 4096)) k, Bnd .rat (.n 4096) t, 0 ≤ d, d ≤ 6, i + d.toNat + 1 < k.length]) z.1 z.2.1 z.2.2.1 z.2.2.2.1 z.2.2.2.2, fun b z => (fun (k : List Rat) (i : Nat) (d : Int) (at_ : Nat) (t : Rat) => .c (.agg [.dt .rat (.n (4194304)) (bsp k t at_ d.toNat i)])) z.1 z.2.1 z.2.2.1 z.2.2.2.1 z.2.2.2.2⟩
theorem kfun_s (n : Nat) (ih : (kfun_i n).OK Tryz.prog) : (kfun_i (n + 1)).OK Tryz.prog := mkF hmix 92 Tryz.func176 rfl rfl (by decide) [(31, .c yint_c), (32, .c ymul_c), (34, .c ysub_c), (62, .c yadd_c), (176, .c (FI.c ih)), (202, .c kpart_c)] (fun _ => rfl) (fun _ => rfl) (fun _ _ => rfl) (fun (k : List Rat) (i : Nat) (d : Int) (at_ : Nat) (t : Rat) b hx hp => agg_rat (bsp_bb (fun v hv => (hp _ (List.mem_cons_of_mem _ (List.mem_cons_self))).2 v hv) (hp _ (List.mem_cons_of_mem _ (List.mem_cons_of_mem _ (List.mem_cons_self)))) at_ (hp _ (List.mem_cons_of_mem _ (List.mem_cons_of_mem _ (List.mem_cons_of_mem _ (List.mem_cons_of_mem _ (List.mem_cons_self)))))) i)) (fun (k : List Rat) (i : Nat) (d : Int) (at_ : Nat) (t : Rat) hx hp => by
 have hl0 : k.length ≤ 1048576 := hx.1.1
 have hx1 : i ≤ 2097152 := hx.2.1
 have hx2 : Int.natAbs d ≤ 8 := hx.2.2.1
 have hx3 : at_ ≤ 2097152 := hx.2.2.2.1
 have hp0 : d.toNat < (n + 1) := hp _ (List.mem_cons_self)
 have hp1 : Bnd (.sl .rat) (.s 64 (.n 4096)) k := hp _ (List.mem_cons_of_mem _ (List.mem_cons_self))
 have hp2 : Bnd .rat (.n 4096) t := hp _ (List.mem_cons_of_mem _ (List.mem_cons_of_mem _ (List.mem_cons_self)))
 have hp3 : 0 ≤ d := hp _ (List.mem_cons_of_mem _ (List.mem_cons_of_mem _ (List.mem_cons_of_mem _ (List.mem_cons_self))))
 have hp4 : d ≤ 6 := hp _ (List.mem_cons_of_mem _ (List.mem_cons_of_mem _ (List.mem_cons_of_mem _ (List.mem_cons_of_mem _ (List.mem_cons_self)))))
 have hp5 : i + d.toNat + 1 < k.length := hp _ (List.mem_cons_of_mem _ (List.mem_cons_of_mem _ (List.mem_cons_of_mem _ (List.mem_cons_of_mem _ (List.mem_cons_of_mem _ (List.mem_cons_self))))))
 exact ⟨.cond (.nil) (.cond (.nil) (.cond (.nil) (.h 7 10 (.ix (i + d.toNat)) (.h 8 5 (.ix (i + d.toNat + 1)) (.h 8 14 (.ix (i + d.toNat + 1)) (.h 9 4 (.i (.z (d - 1) 8)) (.h 9 12 (.i (.n (i + 1) 2097152)) (.h 9 14 (.i (.z (d - 1) 8)) (.nil))))))))), kcast (by kernel_rfl) (And.intro (fun (h1 : d = 0) => And.intro (fun (h2 : i = at_) => (bsp_0y h1 h2 : ((1 : Int) : Rat) = bsp k t at_ d.toNat i)) (fun (h3 : ¬ (i = at_)) => (bsp_0n h1 h3 : 0 = bsp k t at_ d.toNat i))) (fun (h4 : ¬ (d = 0)) => And.intro (fun (h5 : at_ < i) => (bsp_out (by omega) (by omega) : 0 = bsp k t at_ d.toNat i)) (fun (h6 : ¬ (at_ < i)) => And.intro (fun (h7 : (i : Int) + d < (at_ : Int)) => (bsp_out (by omega) (by omega) : 0 = bsp k t at_ d.toNat i)) (fun (h8 : ¬ ((i : Int) + d < (at_ : Int))) => I (by omega : i < k.length) (I (by omega : (i : Int) + d = ((i + d.toNat : Nat) : Int)) (I (by omega : i + d.toNat < k.length) (I (by omega : i < k.length) (I (by omega : ((i : Int) + d) + 1 = ((i + d.toNat + 1 : Nat) : Int)) (I (by omega : i + d.toNat + 1 < k.length) (I (by omega : ((i : Int) + d) + 1 = ((i + d.toNat + 1 : Nat) : Int)) (I (by omega : i + d.toNat + 1 < k.length) (I (by omega : i + 1 < k.length) (I (bi_sub64 rfl (by omega) : BinIs .sub .i64 d 1 (d - 1)) (I (by omega : Int.natAbs (d - 1) ≤ 8) (I (by omega : (d - 1).toNat < n) (I (hp1 : Bnd (.sl .rat) (.s 64 (.n 4096)) k) (I (hp2 : Bnd .rat (.n 4096) t) (I (by omega : 0 ≤ d - 1) (I (by omega : d - 1 ≤ 6) (I (by omega : i + (d - 1).toNat + 1 < k.length) (I (bi_add64 rfl (by omega) : BinIs .add .i64 (i : Int) 1 ((i + 1 : Nat) : Int)) (I (by have := hp1.1; omega : i + 1 ≤ 2097152) (I (bi_sub64 rfl (by omega) : BinIs .sub .i64 d 1 (d - 1)) (I (by omega : Int.natAbs (d - 1) ≤ 8) (I (by omega : (d - 1).toNat < n) (I (hp1 : Bnd (.sl .rat) (.s 64 (.n 4096)) k) (I (hp2 : Bnd .rat (.n 4096) t) (I (by omega : 0 ≤ d - 1) (I (by omega : d - 1 ≤ 6) (I (by omega : (i + 1) + (d - 1).toNat + 1 < k.length) ((bsp_in (by omega) (by omega) : (((t - (k.getD i 0)) / ((k.getD (i + d.toNat) 0) - (k.getD i 0))) * (bsp k t at_ (d - 1).toNat i)) + ((((k.getD (i + d.toNat + 1) 0) - t) / ((k.getD (i + d.toNat + 1) 0) - (k.getD (i + 1) 0))) * (bsp k t at_ (d - 1).toNat (i + 1))) = bsp k t at_ d.toNat i))))))))))))))))))))))))))))))))⟩)
theorem kfun_k : ∀ n, (kfun_i n).OK Tryz.prog
  | 0 => FI.none (fun _ hp => Nat.not_lt_zero _ (hp _ List.mem_cons_self)) (fun _ _ => rfl)
  | n + 1 => kfun_s n (kfun_k n)
abbrev kfun_c : Ctr Tryz.prog := FI.c (kfun_k 8)
end Go.Proofs.YtcjgaaibflcdiaaGreat.Sx

namespace Go.Proofs.YtcjgaaibflcdiaaGreat.Sx
open Go Go.Proofs
set_option linter.unusedVariables false
set_option linter.unusedSimpArgs false
set_option maxRecDepth 20000
set_option maxHeartbeats 4000000
abbrev kvals_i : FI := ⟨127, [(.sl .rat), (.int .i64), .rat], [(.s 1048576 (.n 16384)), (.n 8), (.n 16384)], fun z => (fun (k : List Rat) (d : Int) (t : Rat) => [Bnd (.sl .rat) (.s 64 (.n 4096)) k, Bnd .rat (.n 4096) t, 0 ≤ d, d ≤ 6, 2 * d.toNat + 2 ≤ k.length, ivO k t ∨ d.toNat ≤ ivI k d t]) z.1 z.2.1 z.2.2, fun b z => (fun (k : List Rat) (d : Int) (t : Rat) => .tup [.one (.dt (.nat .i64) (.n 1048577) (ivI k d t - d.toNat)), .one (.dt (.sl .rat) (.s 7 (.n 4194304)) (bvlL k d t)), .one (.dt (.int .i64) (.n 7) (ivE k t))]) z.1 z.2.1 z.2.2⟩
theorem kvals_k : kvals_i.OK Tryz.prog := mkF hmix 44 Tryz.func127 rfl rfl (by decide) [(74, .c kival_c), (176, .c kfun_c)] (fun _ => rfl) (fun _ => rfl) (fun _ _ => rfl) (fun (k : List Rat) (d : Int) (t : Rat) b hx hp => by have h1 : Bnd (.sl .rat) (.s 64 (.n 4096)) k := hp _ (List.mem_cons_self); have h2 : Bnd .rat (.n 4096) t := hp _ (List.mem_cons_of_mem _ (List.mem_cons_self)); have h4 : d ≤ 6 := hp _ (List.mem_cons_of_mem _ (List.mem_cons_of_mem _ (List.mem_cons_of_mem _ (List.mem_cons_self)))); have h := ivI_le k d t; have l := bvl_le k d t; exact tup_cons (one_ok (show ivI k d t - d.toNat ≤ 1048577 by have := h1.1; omega) rfl) (tup_cons (one_ok ⟨show (bvlL k d t).length ≤ 7 by omega, bvl_b (fun v hv => h1.2 v hv) h2 h4⟩ rfl) (tup_cons (one_ok (ivE_b k t) rfl) tup_nil))) (fun (k : List Rat) (d : Int) (t : Rat) hx hp => by
 have hl0 : k.length ≤ 1048576 := hx.1.1
 have hx1 : Int.natAbs d ≤ 8 := hx.2.1
 have hp0 : Bnd (.sl .rat) (.s 64 (.n 4096)) k := hp _ (List.mem_cons_self)
 have hp1 : Bnd .rat (.n 4096) t := hp _ (List.mem_cons_of_mem _ (List.mem_cons_self))
 have hp2 : 0 ≤ d := hp _ (List.mem_cons_of_mem _ (List.mem_cons_of_mem _ (List.mem_cons_self)))
 have hp3 : d ≤ 6 := hp _ (List.mem_cons_of_mem _ (List.mem_cons_of_mem _ (List.mem_cons_of_mem _ (List.mem_cons_self))))
 have hp4 : 2 * d.toNat + 2 ≤ k.length := hp _ (List.mem_cons_of_mem _ (List.mem_cons_of_mem _ (List.mem_cons_of_mem _ (List.mem_cons_of_mem _ (List.mem_cons_self)))))
 have hp5 : ivO k t ∨ d.toNat ≤ ivI k d t := hp _ (List.mem_cons_of_mem _ (List.mem_cons_of_mem _ (List.mem_cons_of_mem _ (List.mem_cons_of_mem _ (List.mem_cons_of_mem _ (List.mem_cons_self))))))
 exact ⟨.cond (.nil) (.h 5 2 (.i (.n (ivI k d t - d.toNat) 1048576)) (.loop [.s 12 (.nat .i64) (.n 1048577), .g 11 90001 .rat (.n 4194304) 64] (fun ((i, out) : Nat × List Rat) => out = bvN k d t (i - (ivI k d t - d.toNat)) ∧ ivI k d t - d.toNat ≤ i ∧ i ≤ ivI k d t + 1) (fun ((i, out) : Nat × List Rat) => ivI k d t + 1 - i) (fun ((i, out) : Nat × List Rat) => .cond (.h 8 7 (.mk (.im .rat (.n 4194304))) (.nil)) (.h 9 2 (.i (.n (ivI k d t - d.toNat) 1048576)) (.pre 999999 (.frz 90001 true [6, 7, 8]) (.nil)))))), kcast (by kernel_rfl) (I (by omega : 0 ≤ d) (I (by omega : d.toNat + 2 ≤ k.length) (And.intro (fun (h1 : ivE k t ≠ 0) => And.intro (ivE_0 h1 : 0 = ivI k d t - d.toNat) (And.intro (ivE_1 h1 : [] = bvlL k d t) (Eq.refl (ivE k t)))) (fun (h2 : ¬ (ivE k t ≠ 0)) => have hO := (ivE_2 h2); have hiv := hp5.resolve_left hO; have hle := (ivI_le2 (k := k) (d := d) (t := t)); I (bi_sub64 (by omega) (by omega) : BinIs .sub .i64 ((ivI k d t : Nat) : Int) d ((ivI k d t - d.toNat : Nat) : Int)) (I (by omega : ivI k d t - d.toNat ≤ 1048576) (I (rfl : 0 = ([] : List Rat).length) (I (⟨by rw [Nat.sub_self]; rfl, by omega, by omega⟩ : ([] : List Rat) = bvN k d t ((ivI k d t - d.toNat) - (ivI k d t - d.toNat)) ∧ ivI k d t - d.toNat ≤ (ivI k d t - d.toNat) ∧ (ivI k d t - d.toNat) ≤ ivI k d t + 1) (fun (i : Nat) (out : List Rat) (hb3 : HB [.s 12 (.nat .i64) (.n 1048577), .g 11 90001 .rat (.n 4194304) 64] (i, out)) (hI : out = bvN k d t (i - (ivI k d t - d.toNat)) ∧ ivI k d t - d.toNat ≤ i ∧ i ≤ ivI k d t + 1) => have hv6 := (show i ≤ 1048577 from hb3.1); have hv7 := (show out.length ≤ 64 from hb3.2.1); have hI1 := hI.2.1; have hI2 := hI.2.2; have hol := (show out.length = i - (ivI k d t - d.toNat) from by rw [hI.1, bvN_len]); And.intro (fun (h4 : i ≤ ivI k d t) => I (by omega : d.toNat < 8) (I (hp0 : Bnd (.sl .rat) (.s 64 (.n 4096)) k) (I (hp1 : Bnd .rat (.n 4096) t) (I (by omega : 0 ≤ d) (I (by omega : d ≤ 6) (I (by omega : i + d.toNat + 1 < k.length) (I (by omega : out.length = out.length) (I (show (i + 1) ≤ 1048577 by omega : Bnd (.nat .i64) (.n 1048577) (i + 1)) (I (by (try simp only [List.length_append, List.length_cons, List.length_nil]) <;> omega : out.length + [bsp k t (ivI k d t) d.toNat i].length = (out ++ [bsp k t (ivI k d t) d.toNat i]).length) (I (by (try simp only [List.length_append, List.length_cons, List.length_nil]) <;> omega : out.length + [bsp k t (ivI k d t) d.toNat i].length ≤ 64) (And.intro (⟨by rw [hI.1, bvN_step (by omega), show i + 1 - (ivI k d t - d.toNat) = i - (ivI k d t - d.toNat) + 1 by omega], by omega, by omega⟩ : (out ++ [bsp k t (ivI k d t) d.toNat i]) = bvN k d t ((i + 1) - (ivI k d t - d.toNat)) ∧ ivI k d t - d.toNat ≤ (i + 1) ∧ (i + 1) ≤ ivI k d t + 1) (by omega : ivI k d t + 1 - (i + 1) < ivI k d t + 1 - i)))))))))))) (fun (h5 : ¬ (i ≤ ivI k d t)) => I (bi_sub64 (by omega) (by omega) : BinIs .sub .i64 ((ivI k d t : Nat) : Int) d ((ivI k d t - d.toNat : Nat) : Int)) (I (by omega : ivI k d t - d.toNat ≤ 1048576) (I (by omega : out.length = out.length) (And.intro (Eq.refl (ivI k d t - d.toNat)) (And.intro (by rw [hI.1, show i - (ivI k d t - d.toNat) = d.toNat + 1 by omega, bvN_fin hO] : out = bvlL k d t) (ivE_3 hO : 0 = ivE k t))))))))))))))⟩)
abbrev kvals_c : Ctr Tryz.prog := FI.c kvals_k
end Go.Proofs.YtcjgaaibflcdiaaGreat.Sx

namespace Go.Proofs.YtcjgaaibflcdiaaGreat.Sx
open Go Go.Proofs
set_option linter.unusedVariables false
set_option linter.unusedSimpArgs false
set_option maxRecDepth 20000
set_option maxHeartbeats 4000000
abbrev kdrop_i : FI := ⟨75, [(.pr .rat (.pr .rat (.pr .rat .rat)))], [(.p (.n 1073741824) (.p (.n 1073741824) (.p (.n 1073741824) (.n 1073741824))))], fun _ => [], fun b z => (fun (h : Rat × Rat × Rat × Rat) => .c (.agg [.dt (.pr tV3 .rat) (.p (bV3 (2 * (b0 b).mx + 2)) (.n (2 * (b0 b).mx + 2))) (dropP h)])) z⟩
theorem kdrop_k : kdrop_i.OK Tryz.prog := mkF hmix 18 Tryz.func75 rfl rfl (by decide) [(31, .c yint_c), (43, .c vscaler_c), (126, .c yover_c)] (fun _ => rfl) (fun _ => rfl) (fun _ _ => rfl) (fun (h : Rat × Rat × Rat × Rat) b hx hp => agg_ok (dropP_b (Bnds.h1 hx))) (fun (h : Rat × Rat × Rat × Rat) hx hp => by
 exact ⟨.nil, kcast (by kernel_rfl) ((rfl : (scaleV (((1 : Int) : Rat) / h.2.2.2) (h.1, h.2.1, h.2.2.1), h.2.2.2) = dropP h))⟩)
abbrev kdrop_c : Ctr Tryz.prog := FI.c kdrop_k
abbrev khom_i : FI := ⟨76, [(.pr (.int .i64) (.pr (.sl .rat) (.sl (.pr (.pr .rat (.pr .rat .rat)) .rat)))), .rat], [(.p (.n 8) (.p (.s 1048576 (.n 16384)) (.s 1048576 (.p (.p (.n 16384) (.p (.n 16384) (.n 16384))) (.n 16384))))), (.n 16384)], fun z => (fun (c : Int × List Rat × List ((Rat × Rat × Rat) × Rat)) (t : Rat) => [EvC c t, ¬ ivO c.2.1 t]) z.1 z.2, fun b z => (fun (c : Int × List Rat × List ((Rat × Rat × Rat) × Rat)) (t : Rat) => .c (.agg [.dt tF4 (bF4 33554432) (homV c t)])) z.1 z.2⟩
theorem khom_k : khom_i.OK Tryz.prog := mkF hmix 55 Tryz.func76 rfl rfl (by decide) [(32, .c ymul_c), (62, .c yadd_c), (127, .c kvals_c), (128, .c xlift_c)] (fun _ => rfl) (fun _ => rfl) (fun _ _ => rfl) (fun (c : Int × List Rat × List ((Rat × Rat × Rat) × Rat)) (t : Rat) b hx hp => agg_ok (homV_b (hp _ (List.mem_cons_self)))) (fun (c : Int × List Rat × List ((Rat × Rat × Rat) × Rat)) (t : Rat) hx hp => by
 have hp0 : EvC c t := hp _ (List.mem_cons_self)
 have hp1 : ¬ ivO c.2.1 t := hp _ (List.mem_cons_of_mem _ (List.mem_cons_self))
 exact ⟨.loop [.s 9 (.nat .i64) (.n 8), .r 8 (.pr .rat (.pr .rat (.pr .rat .rat))) (.p (.n 33554432) (.p (.n 33554432) (.p (.n 33554432) (.n 33554432))))] (fun ((i, o) : Nat × Rat × Rat × Rat × Rat) => o = homN c.2.2 (bvc c t) (ivI c.2.1 c.1 t - c.1.toNat) i ∧ i ≤ c.1.toNat + 1) (fun ((i, o) : Nat × Rat × Rat × Rat × Rat) => c.1.toNat + 1 - i) (fun ((i, o) : Nat × Rat × Rat × Rat × Rat) => .nil), kcast (by kernel_rfl) (have hd0 := hp0.d0; have hd6 := hp0.d6; have hkl := hp0.kl; have hpl := hp0.pl; have hiv := (hp0.iv.resolve_left hp1); have hle := (ivI_le2 (k := c.2.1) (d := c.1) (t := t)); have hbl := (bvl_len (d := c.1) hp1 : (bvc c t).length = c.1.toNat + 1); I (hp0.kb : Bnd (.sl .rat) (.s 64 (.n 4096)) c.2.1) (I (hp0.tb : Bnd .rat (.n 4096) t) (I (by omega : 0 ≤ c.1) (I (by omega : c.1 ≤ 6) (I (by omega : 2 * c.1.toNat + 2 ≤ c.2.1.length) (I (hp0.iv : ivO c.2.1 t ∨ c.1.toNat ≤ ivI c.2.1 c.1 t) (I (⟨rfl, by omega⟩ : (0, 0, 0, 0) = homN c.2.2 (bvc c t) (ivI c.2.1 c.1 t - c.1.toNat) 0 ∧ 0 ≤ c.1.toNat + 1) (fun (i : Nat) (o : Rat × Rat × Rat × Rat) (hb1 : HB [.s 9 (.nat .i64) (.n 8), .r 8 (.pr .rat (.pr .rat (.pr .rat .rat))) (.p (.n 33554432) (.p (.n 33554432) (.p (.n 33554432) (.n 33554432))))] (i, o)) (hI : o = homN c.2.2 (bvc c t) (ivI c.2.1 c.1 t - c.1.toNat) i ∧ i ≤ c.1.toNat + 1) => have hv4 := (show i ≤ 8 from hb1.1); have hI1 := hI.2; And.intro (fun (h2 : i < (bvlL c.2.1 c.1 t).length) => I (by omega : (ivI c.2.1 c.1 t - c.1.toNat) + i < c.2.2.length) (I (by omega : i < (bvlL c.2.1 c.1 t).length) (I (by omega : i < (bvlL c.2.1 c.1 t).length) (I (by omega : i < (bvlL c.2.1 c.1 t).length) (I (by omega : i < (bvlL c.2.1 c.1 t).length) (I ((show i + 1 ≤ 8 by omega) : Bnd (.nat .i64) (.n 8) (i + 1)) (I ((by rw [hI.1]; exact homN_bb hp0 (show i + 1 ≤ 7 by omega)) : Bnd (.pr .rat (.pr .rat (.pr .rat .rat))) (.p (.n 33554432) (.p (.n 33554432) (.p (.n 33554432) (.n 33554432)))) (o.1 + (((bvlL c.2.1 c.1 t).getD i 0) * ((fourV (c.2.2.getD ((ivI c.2.1 c.1 t - c.1.toNat) + i) ((0, (0, 0)), 0))).1)), o.2.1 + (((bvlL c.2.1 c.1 t).getD i 0) * (((fourV (c.2.2.getD ((ivI c.2.1 c.1 t - c.1.toNat) + i) ((0, (0, 0)), 0))).2).1)), o.2.2.1 + (((bvlL c.2.1 c.1 t).getD i 0) * ((((fourV (c.2.2.getD ((ivI c.2.1 c.1 t - c.1.toNat) + i) ((0, (0, 0)), 0))).2).2).1)), o.2.2.2 + (((bvlL c.2.1 c.1 t).getD i 0) * ((((fourV (c.2.2.getD ((ivI c.2.1 c.1 t - c.1.toNat) + i) ((0, (0, 0)), 0))).2).2).2)))) (And.intro (⟨by rw [hI.1]; rfl, by omega⟩ : (o.1 + (((bvlL c.2.1 c.1 t).getD i 0) * ((fourV (c.2.2.getD ((ivI c.2.1 c.1 t - c.1.toNat) + i) ((0, (0, 0)), 0))).1)), o.2.1 + (((bvlL c.2.1 c.1 t).getD i 0) * (((fourV (c.2.2.getD ((ivI c.2.1 c.1 t - c.1.toNat) + i) ((0, (0, 0)), 0))).2).1)), o.2.2.1 + (((bvlL c.2.1 c.1 t).getD i 0) * ((((fourV (c.2.2.getD ((ivI c.2.1 c.1 t - c.1.toNat) + i) ((0, (0, 0)), 0))).2).2).1)), o.2.2.2 + (((bvlL c.2.1 c.1 t).getD i 0) * ((((fourV (c.2.2.getD ((ivI c.2.1 c.1 t - c.1.toNat) + i) ((0, (0, 0)), 0))).2).2).2))) = homN c.2.2 (bvc c t) (ivI c.2.1 c.1 t - c.1.toNat) (i + 1) ∧ (i + 1) ≤ c.1.toNat + 1) (by omega : c.1.toNat + 1 - (i + 1) < c.1.toNat + 1 - i))))))))) (fun (h3 : ¬ (i < (bvlL c.2.1 c.1 t).length)) => (by rw [hI.1, show i = (bvlL c.2.1 c.1 t).length by omega]; rfl : o = homV c t))))))))))⟩)
abbrev khom_c : Ctr Tryz.prog := FI.c khom_k
abbrev keval_i : FI := ⟨20, [(.pr (.int .i64) (.pr (.sl .rat) (.sl (.pr (.pr .rat (.pr .rat .rat)) .rat)))), .rat], [(.p (.n 8) (.p (.s 1048576 (.n 16384)) (.s 1048576 (.p (.p (.n 16384) (.p (.n 16384) (.n 16384))) (.n 16384))))), (.n 16384)], fun z => (fun (c : Int × List Rat × List ((Rat × Rat × Rat) × Rat)) (t : Rat) => [EvC c t]) z.1 z.2, fun b z => (fun (c : Int × List Rat × List ((Rat × Rat × Rat) × Rat)) (t : Rat) => .tup [.agg [.dt tV3 (bV3 67108868) (evV c t)], .one (.dt (.int .i64) (.n 7) (ivE c.2.1 t))]) z.1 z.2⟩
theorem keval_k : keval_i.OK Tryz.prog := mkF hmix 26 Tryz.func20 rfl rfl (by decide) [(74, .c kival_c), (75, .c kdrop_c), (76, .c khom_c)] (fun _ => rfl) (fun _ => rfl) (fun _ _ => rfl) (fun (c : Int × List Rat × List ((Rat × Rat × Rat) × Rat)) (t : Rat) b hx hp => tup_cons (agg_ok (evV_b (hp _ (List.mem_cons_self)))) (tup_cons (one_ok (ivE_b _ t) rfl) tup_nil)) (fun (c : Int × List Rat × List ((Rat × Rat × Rat) × Rat)) (t : Rat) hx hp => by
 have hp0 : EvC c t := hp _ (List.mem_cons_self)
 exact ⟨.nil, kcast (by kernel_rfl) (have hd0 := hp0.d0; have hkl := hp0.kl; I (by omega : 0 ≤ c.1) (I (by omega : c.1.toNat + 2 ≤ c.2.1.length) (And.intro (fun (h1 : ivE c.2.1 t ≠ 0) => And.intro (evV_0 h1 : (0, 0, 0) = evV c t) (Eq.refl (ivE c.2.1 t))) (fun (h2 : ¬ (ivE c.2.1 t ≠ 0)) => I (hp0 : EvC c t) (I (ivE_2 (by assumption) : ¬ ivO c.2.1 t) (And.intro (evV_1 h2 : (dropP (homV c t)).1 = evV c t) (ivE_3 (ivE_2 h2) : 0 = ivE c.2.1 t)))))))⟩)
abbrev keval_c : Ctr Tryz.prog := FI.c keval_k
abbrev kends_i : FI := ⟨24, [(.pr (.int .i64) (.pr (.sl .rat) (.sl (.pr (.pr .rat (.pr .rat .rat)) .rat))))], [(.p (.n 8) (.p (.s 1048576 (.n 16384)) (.s 1048576 (.p (.p (.n 16384) (.p (.n 16384) (.n 16384))) (.n 16384)))))], fun z => (fun (c : Int × List Rat × List ((Rat × Rat × Rat) × Rat)) => [0 < c.2.2.length]) z, fun b z => (fun (c : Int × List Rat × List ((Rat × Rat × Rat) × Rat)) => .tup [.agg [.dt tV3 (bV3 (b0 b).mx) (c.2.2.getD 0 d0).1], .agg [.dt tV3 (bV3 (b0 b).mx) (c.2.2.getD (c.2.2.length - 1) d0).1]]) z⟩
theorem kends_k : kends_i.OK Tryz.prog := mkF hmix 18 Tryz.func24 rfl rfl (by decide) [] (fun _ => rfl) (fun _ => rfl) (fun _ _ => rfl) (fun (c : Int × List Rat × List ((Rat × Rat × Rat) × Rat)) b hx hp => tup_cons (agg_ok (cv_pole (Bnds.h1 hx) 0)) (tup_cons (agg_ok (cv_pole (Bnds.h1 hx) _)) tup_nil)) (fun (c : Int × List Rat × List ((Rat × Rat × Rat) × Rat)) hx hp => by
 have hp0 : 0 < c.2.2.length := hp _ (List.mem_cons_self)
 exact ⟨.h 1 10 (.i .sub) (.nil), kcast (by kernel_rfl) (I (by omega : 0 < c.2.2.length) (I (by omega : 1 ≤ c.2.2.length) (I (by omega : c.2.2.length - 1 < c.2.2.length) (And.intro (rfl : (c.2.2.getD 0 ((0, (0, 0)), 0)).1 = (c.2.2.getD 0 ((0, 0, 0), 0)).1) (rfl : (c.2.2.getD (c.2.2.length - 1) ((0, (0, 0)), 0)).1 = (c.2.2.getD (c.2.2.length - 1) ((0, 0, 0), 0)).1)))))⟩)
abbrev kends_c : Ctr Tryz.prog := FI.c kends_k
end Go.Proofs.YtcjgaaibflcdiaaGreat.Sx

namespace Go.Proofs.YtcjgaaibflcdiaaGreat.Sx
open Go Go.Proofs
set_option linter.unusedVariables false
set_option linter.unusedSimpArgs false
set_option maxRecDepth 20000
set_option maxHeartbeats 4000000
abbrev dpart_i : FI := ⟨21, [(.int .i64)], [(.n 9223372036854775808)], fun _ => [], fun b z => (fun (x : Int) => .c (.agg [.dt .rat (.n (5)) (partV x)])) z⟩
theorem dpart_k : dpart_i.OK Tryz.prog := mkF hmix 14 Tryz.func21 rfl rfl (by decide) [(12, .c dmod_c), (33, .c yfrac_c)] (fun _ => rfl) (fun _ => rfl) (fun _ _ => rfl) (fun (x : Int) b hx hp => agg_rat (partV_b x)) (fun (x : Int) hx hp => by
 have hx0 : Int.natAbs x ≤ 9223372036854775808 := hx
 exact ⟨.h 1 1 (.i (.z (Int.tdiv x 17) 1152921504606846976)) (.nil), kcast (by kernel_rfl) (have hdr := (partD_r x); I (bi_part hx0 : BinIs .quo .i64 x 17 (Int.tdiv x 17)) (I (tdiv17 hx0 : Int.natAbs (Int.tdiv x 17) ≤ 1152921504606846976) (I (by omega : (0 : Int) < 12) (I (by omega : (0 : Int) < (1 + ((Int.tdiv x 17) % 12)) + 1) ((rfl : ((x % ((1 + ((Int.tdiv x 17) % 12)) + 1) : Int) : Rat) / ((1 + ((Int.tdiv x 17) % 12) : Int) : Rat) = partV x))))))⟩)
abbrev dpart_c : Ctr Tryz.prog := FI.c dpart_k
end Go.Proofs.YtcjgaaibflcdiaaGreat.Sx

namespace Go.Proofs.YtcjgaaibflcdiaaGreat.Sx
open Go
set_option linter.unusedVariables false
theorem one_i : ((1 : Int) : Rat) = 1 := rfl
theorem cmp_le {x y : Rat} : cmpQ x y ≤ 0 ↔ x ≤ y := by
  unfold cmpQ; split
  · rename_i h; exact ⟨fun _ => Rat.le_of_lt h, fun _ => by decide⟩
  · split
    · rename_i h; subst h; exact ⟨fun _ => Rat.le_refl, fun _ => by decide⟩
    · rename_i h1 h2
      refine ⟨fun h => absurd h (by decide), fun h => ?_⟩
      rcases Rat.le_iff_lt_or_eq.1 h with g | g
      · exact absurd g h1
      · exact absurd g h2
theorem cmp_lt {x y : Rat} : cmpQ x y < 0 ↔ x < y := by
  unfold cmpQ; split
  · rename_i h; exact ⟨fun _ => h, fun _ => by decide⟩
  · rename_i h; split
    · exact ⟨fun h => absurd h (by decide), fun g => absurd g h⟩
    · exact ⟨fun h => absurd h (by decide), fun g => absurd g h⟩
theorem cmp_gt {x y : Rat} : 0 < cmpQ x y ↔ y < x := by
  rw [← Rat.not_le, ← cmp_le]; omega
theorem num_pos' {x : Rat} : 0 < x.num ↔ 0 < x := by
  refine ⟨fun h => Rat.lt_of_le_of_ne (Rat.num_nonneg.1 (by omega)) (fun e => by subst e; exact absurd h (by decide)), fun h => ?_⟩
  have h1 := Rat.num_nonneg.2 (Rat.le_of_lt h)
  have h2 : x.num ≠ 0 := fun e => absurd (Rat.num_eq_zero.1 e) (Ne.symm (Rat.ne_of_lt h))
  omega
theorem sgn_pos {x : Rat} : 0 < sgnQ x ↔ 0 < x := by
  rw [← num_pos']; unfold sgnQ; split
  · exact ⟨fun h => absurd h (by decide), fun h => by omega⟩
  · split
    · exact ⟨fun h => absurd h (by decide), fun h => by omega⟩
    · exact ⟨fun _ => by omega, fun _ => by decide⟩
theorem root_nn (r : Rat) (k : Nat) : 0 ≤ rootLo r k := by
  unfold rootLo; split
  · exact Rat.le_refl
  · refine Rat.num_nonneg.1 ?_
    rw [(sgQ_norm (Nat.pow_pos (by decide))).1]
    exact Int.ediv_nonneg (by unfold sgI; simp) (Int.natCast_nonneg _)
theorem min_1 (x y : Rat) : minQ x y ≤ x := by
  unfold minQ; split
  · rename_i h; exact Rat.le_of_lt (cmp_lt.1 h)
  · exact Rat.le_refl
theorem min_2 (x y : Rat) : minQ x y ≤ y := by
  unfold minQ; split
  · exact Rat.le_refl
  · rename_i h; exact Rat.not_lt.1 (mt cmp_lt.2 h)
theorem max_1 (x y : Rat) : x ≤ maxQ x y := by
  unfold maxQ; split
  · rename_i h; exact Rat.le_of_lt (cmp_gt.1 h)
  · exact Rat.le_refl
theorem max_2 (x y : Rat) : y ≤ maxQ x y := by
  unfold maxQ; split
  · exact Rat.le_refl
  · rename_i h; exact Rat.not_lt.1 (mt cmp_gt.2 h)
theorem mul3 (a b c d e f : Rat) : mulL [a, b, c] [d, e, f] = [a * d, (a * e + b * d) / 2, (a * f + 4 * (b * e) + c * d) / 6, (b * f + c * e) / 2, c * f] := by
  have h : mulL [a, b, c] [d, e, f] = [(0 + 1 * a * (1 * d)) / 1, (0 + 1 * a * (2 * e) + 2 * b * (1 * d)) / 4, (0 + 1 * a * (1 * f) + 2 * b * (2 * e) + 1 * c * (1 * d)) / 6, (0 + 2 * b * (1 * f) + 1 * c * (2 * e)) / 4, (0 + 1 * c * (1 * f)) / 1] := rfl
  rw [h]
  refine List.cons_eq_cons.2 ⟨by grind, List.cons_eq_cons.2 ⟨by grind, List.cons_eq_cons.2 ⟨by grind, List.cons_eq_cons.2 ⟨by grind, List.cons_eq_cons.2 ⟨by grind, rfl⟩⟩⟩⟩⟩
theorem le_divm {l s w : Rat} (hw : 0 < w) (h : l ≤ s / w) : l * w ≤ s := by
  have := Rat.mul_le_mul_of_nonneg_right h (Rat.le_of_lt hw)
  rwa [Rat.div_mul_cancel (Ne.symm (Rat.ne_of_lt hw))] at this
theorem div_lem {l s w : Rat} (hw : 0 < w) (h : s / w ≤ l) : s ≤ l * w := by
  have := Rat.mul_le_mul_of_nonneg_right h (Rat.le_of_lt hw)
  rwa [Rat.div_mul_cancel (Ne.symm (Rat.ne_of_lt hw))] at this
theorem five_le {b0 b1 b2 b3 b4 s0 s1 s2 s3 s4 w0 w1 w2 w3 w4 l : Rat} (h0 : 0 ≤ b0) (h1 : 0 ≤ b1) (h2 : 0 ≤ b2) (h3 : 0 ≤ b3) (h4 : 0 ≤ b4)
    (g0 : l * w0 ≤ s0) (g1 : l * w1 ≤ s1) (g2 : l * w2 ≤ s2) (g3 : l * w3 ≤ s3) (g4 : l * w4 ≤ s4) : l * (b0 * w0 + b1 * w1 + b2 * w2 + b3 * w3 + b4 * w4) ≤ b0 * s0 + b1 * s1 + b2 * s2 + b3 * s3 + b4 * s4 := by
  have k0 := Rat.mul_le_mul_of_nonneg_left g0 h0
  have k1 := Rat.mul_le_mul_of_nonneg_left g1 h1
  have k2 := Rat.mul_le_mul_of_nonneg_left g2 h2
  have k3 := Rat.mul_le_mul_of_nonneg_left g3 h3
  have k4 := Rat.mul_le_mul_of_nonneg_left g4 h4
  grind
theorem five_ge {b0 b1 b2 b3 b4 s0 s1 s2 s3 s4 w0 w1 w2 w3 w4 l : Rat} (h0 : 0 ≤ b0) (h1 : 0 ≤ b1) (h2 : 0 ≤ b2) (h3 : 0 ≤ b3) (h4 : 0 ≤ b4)
    (g0 : s0 ≤ l * w0) (g1 : s1 ≤ l * w1) (g2 : s2 ≤ l * w2) (g3 : s3 ≤ l * w3) (g4 : s4 ≤ l * w4) : b0 * s0 + b1 * s1 + b2 * s2 + b3 * s3 + b4 * s4 ≤ l * (b0 * w0 + b1 * w1 + b2 * w2 + b3 * w3 + b4 * w4) := by
  have k0 := Rat.mul_le_mul_of_nonneg_left g0 h0
  have k1 := Rat.mul_le_mul_of_nonneg_left g1 h1
  have k2 := Rat.mul_le_mul_of_nonneg_left g2 h2
  have k3 := Rat.mul_le_mul_of_nonneg_left g3 h3
  have k4 := Rat.mul_le_mul_of_nonneg_left g4 h4
  grind
abbrev K6 : List Rat := [0, 0, 0, ((1 : Int) : Rat), ((1 : Int) : Rat), ((1 : Int) : Rat)]
theorem k6_in {t : Rat} (h0 : 0 ≤ t) (h1 : t ≤ 1) : ¬ ivO K6 t := by
  rintro (h | h)
  · have := cmp_lt.1 h
    exact absurd this (Rat.not_lt.2 h0)
  · have := cmp_gt.1 h
    exact absurd this (Rat.not_lt.2 h1)
theorem k6_i {t : Rat} (h0 : 0 ≤ t) (h1 : t ≤ 1) : ivI K6 2 t = 2 := by
  rw [ivI, if_neg (k6_in h0 h1)]
  show ivl K6 t 2 = 2
  rw [ivl, if_neg]
  intro h
  exact absurd (cmp_lt.1 h) (Rat.not_lt.2 h0)
theorem d10 (x : Rat) : x / (((1 : Int) : Rat) - 0) = x := by rw [one_i]; grind
theorem k6_b {t : Rat} (h0 : 0 ≤ t) (h1 : t ≤ 1) : bvlL K6 2 t = [(1 - t) * (1 - t), 2 * t * (1 - t), t * t] := by
  have hb : bvlL K6 2 t = [bsp K6 t 2 2 0, bsp K6 t 2 2 1, bsp K6 t 2 2 2] := by
    rw [bvlL, if_neg (k6_in h0 h1), k6_i h0 h1]; rfl
  have z : ∀ x : Rat, x / (0 - 0) = 0 := fun x => by grind
  have z1 : ∀ x : Rat, x / (((1 : Int) : Rat) - ((1 : Int) : Rat)) = 0 := fun x => by rw [one_i]; grind
  have e00 : bsp K6 t 2 0 0 = 0 := rfl
  have e01 : bsp K6 t 2 0 1 = 0 := rfl
  have e02 : bsp K6 t 2 0 2 = 1 := rfl
  have e03 : bsp K6 t 2 0 3 = 0 := rfl
  have e10 : bsp K6 t 2 1 0 = 0 := rfl
  have e11 : bsp K6 t 2 1 1 = 1 - t := by
    have : bsp K6 t 2 1 1 = (t - 0) / (0 - 0) * bsp K6 t 2 0 1 + (((1 : Int) : Rat) - t) / (((1 : Int) : Rat) - 0) * bsp K6 t 2 0 2 := rfl
    rw [this, z, d10, e02, one_i]; grind
  have e12 : bsp K6 t 2 1 2 = t := by
    have : bsp K6 t 2 1 2 = (t - 0) / (((1 : Int) : Rat) - 0) * bsp K6 t 2 0 2 + (((1 : Int) : Rat) - t) / (((1 : Int) : Rat) - ((1 : Int) : Rat)) * bsp K6 t 2 0 3 := rfl
    rw [this, z1, d10, e02]; grind
  have e13 : bsp K6 t 2 1 3 = 0 := rfl
  have e20 : bsp K6 t 2 2 0 = (1 - t) * (1 - t) := by
    have : bsp K6 t 2 2 0 = (t - 0) / (0 - 0) * bsp K6 t 2 1 0 + (((1 : Int) : Rat) - t) / (((1 : Int) : Rat) - 0) * bsp K6 t 2 1 1 := rfl
    rw [this, z, d10, e11, one_i]; grind
  have e21 : bsp K6 t 2 2 1 = 2 * t * (1 - t) := by
    have : bsp K6 t 2 2 1 = (t - 0) / (((1 : Int) : Rat) - 0) * bsp K6 t 2 1 1 + (((1 : Int) : Rat) - t) / (((1 : Int) : Rat) - 0) * bsp K6 t 2 1 2 := rfl
    rw [this, d10, d10, e11, e12, one_i]; grind
  have e22 : bsp K6 t 2 2 2 = t * t := by
    have : bsp K6 t 2 2 2 = (t - 0) / (((1 : Int) : Rat) - 0) * bsp K6 t 2 1 2 + (((1 : Int) : Rat) - t) / (((1 : Int) : Rat) - ((1 : Int) : Rat)) * bsp K6 t 2 1 3 := rfl
    rw [this, z1, d10, e12]; grind
  rw [hb, e20, e21, e22]
section
variable (a b c m : V3) (w t : Rat)
abbrev arc3 : Curve := (2, K6, [(a, ((1 : Int) : Rat)), (b, w), (c, ((1 : Int) : Rat))])
def den3 : Rat := (1 - t) * (1 - t) + 2 * t * (1 - t) * w + t * t
def num3 (x y z : Rat) : Rat := (1 - t) * (1 - t) * x + 2 * t * (1 - t) * (w * y) + t * t * z
theorem ev3 (h0 : 0 ≤ t) (h1 : t ≤ 1) : evV (arc3 a b c w) t = scaleV (1 / den3 w t) (num3 w t a.1 b.1 c.1, num3 w t a.2.1 b.2.1 c.2.1, num3 w t a.2.2 b.2.2 c.2.2) := by
  rw [evV, if_neg (k6_in h0 h1)]
  have hh : homV (arc3 a b c w) t = (num3 w t a.1 b.1 c.1, num3 w t a.2.1 b.2.1 c.2.1, num3 w t a.2.2 b.2.2 c.2.2, den3 w t) := by
    have e : homV (arc3 a b c w) t = homN (arc3 a b c w).2.2 [(1 - t) * (1 - t), 2 * t * (1 - t), t * t] 0 3 := by
      unfold homV bvc
      rw [show (arc3 a b c w).2.1 = K6 from rfl, show (arc3 a b c w).1 = 2 from rfl, k6_b h0 h1, k6_i h0 h1]; rfl
    have f : homN (arc3 a b c w).2.2 [(1 - t) * (1 - t), 2 * t * (1 - t), t * t] 0 3 = homS (homS (homS (0, 0, 0, 0) ((1 - t) * (1 - t)) (liftP (a, ((1 : Int) : Rat)))) (2 * t * (1 - t)) (liftP (b, w))) (t * t) (liftP (c, ((1 : Int) : Rat))) := rfl
    rw [e, f]
    unfold homS liftP num3 den3
    simp only [one_i]
    refine Prod.ext ?_ (Prod.ext ?_ (Prod.ext ?_ ?_)) <;> grind
  rw [hh]; unfold dropP; rw [one_i]
theorem den3_pos (h0 : 0 ≤ t) (h1 : t ≤ 1) (hw : 0 < w) : 0 < den3 w t := by
  have u : 0 ≤ 1 - t := by grind
  have p : 0 ≤ 2 * t * (1 - t) * w := Rat.mul_nonneg (Rat.mul_nonneg (Rat.mul_nonneg (by decide) h0) u) (Rat.le_of_lt hw)
  have q : 0 ≤ (1 - t) * (1 - t) := Rat.mul_nonneg u u
  unfold den3
  rcases Rat.le_iff_lt_or_eq.1 h0 with h | h
  · have := Rat.mul_pos h h; grind
  · subst h; grind
theorem coord (x y z n : Rat) : ((1 - t) * (1 - t) * (1 - t) * (1 - t)) * ((x - n) * (x - n)) + (4 * t * (1 - t) * (1 - t) * (1 - t)) * (((x - n) * (w * y - n * w) + (w * y - n * w) * (x - n)) / 2) + (6 * t * t * (1 - t) * (1 - t)) * (((x - n) * (z - n) + 4 * ((w * y - n * w) * (w * y - n * w)) + (z - n) * (x - n)) / 6) + (4 * t * t * t * (1 - t)) * (((w * y - n * w) * (z - n) + (z - n) * (w * y - n * w)) / 2) + (t * t * t * t) * ((z - n) * (z - n)) = (num3 w t x y z - n * den3 w t) * (num3 w t x y z - n * den3 w t) := by
  unfold num3 den3; grind
theorem coordw : ((1 - t) * (1 - t) * (1 - t) * (1 - t)) * (1 * 1) + (4 * t * (1 - t) * (1 - t) * (1 - t)) * ((1 * w + w * 1) / 2) + (6 * t * t * (1 - t) * (1 - t)) * ((1 * 1 + 4 * (w * w) + 1 * 1) / 6) + (4 * t * t * t * (1 - t)) * ((w * 1 + 1 * w) / 2) + (t * t * t * t) * (1 * 1) = den3 w t * den3 w t := by
  unfold den3; grind
end
end Go.Proofs.YtcjgaaibflcdiaaGreat.Sx

namespace Go.Proofs.YtcjgaaibflcdiaaGreat.Sx
open Go
set_option linter.unusedVariables false
theorem rle_eq {x y : Rat} (h : x = y) : x ≤ y := h ▸ Rat.le_refl
theorem sq_nn (x : Rat) : 0 ≤ x * x := by
  rcases (Rat.le_total : 0 ≤ x ∨ x ≤ 0) with h | h
  · exact Rat.mul_nonneg h h
  · have : 0 ≤ -x := by grind
    have := Rat.mul_nonneg this this
    grind
theorem five_add (b0 b1 b2 b3 b4 x0 x1 x2 x3 x4 y0 y1 y2 y3 y4 z0 z1 z2 z3 z4 : Rat) : b0 * (x0 + y0 + z0) + b1 * (x1 + y1 + z1) + b2 * (x2 + y2 + z2) + b3 * (x3 + y3 + z3) + b4 * (x4 + y4 + z4) = (b0 * x0 + b1 * x1 + b2 * x2 + b3 * x3 + b4 * x4) + (b0 * y0 + b1 * y1 + b2 * y2 + b3 * y3 + b4 * y4) + (b0 * z0 + b1 * z1 + b2 * z2 + b3 * z3 + b4 * z4) := by grind
theorem coordv {D N n : Rat} (hD : 0 < D) : (1 / D * N - n) * (1 / D * N - n) * (D * D) = (N - n * D) * (N - n * D) := by
  have hu : 1 / D * D = 1 := Rat.div_mul_cancel (Ne.symm (Rat.ne_of_lt hD))
  have e : (1 / D * N - n) * D = N - n * D := by
    rw [Rat.sub_eq_add_neg, Rat.add_mul, Rat.mul_assoc, Rat.mul_comm N D, ← Rat.mul_assoc, hu]; grind
  rw [← e]; grind
theorem x3w (w x y z n : Rat) : subL [((1 : Int) : Rat) * x, w * y, ((1 : Int) : Rat) * z] (scaleL n [((1 : Int) : Rat), w, ((1 : Int) : Rat)]) = [x - n, w * y - n * w, z - n] := by
  have h : subL [((1 : Int) : Rat) * x, w * y, ((1 : Int) : Rat) * z] (scaleL n [((1 : Int) : Rat), w, ((1 : Int) : Rat)]) = [((1 : Int) : Rat) * x - n * ((1 : Int) : Rat), w * y - n * w, ((1 : Int) : Rat) * z - n * ((1 : Int) : Rat)] := rfl
  rw [h, one_i, Rat.one_mul, Rat.one_mul, Rat.mul_one]
section
variable {a b c m : V3} {w t : Rat}
theorem reach3 (hw : 0 < w) (h0 : 0 ≤ t) (h1 : t ≤ 1) : (reachF (numsV (arc3 a b c w).2.2) m).1 ≤ dotQ (subV (evV (arc3 a b c w) t) m) (subV (evV (arc3 a b c w) t) m) ∧ dotQ (subV (evV (arc3 a b c w) t) m) (subV (evV (arc3 a b c w) t) m) ≤ (reachF (numsV (arc3 a b c w).2.2) m).2 := by
  have hD := den3_pos w t h0 h1 hw
  have u : 0 ≤ 1 - t := by grind
  have ww : 0 < w * w := Rat.mul_pos hw hw
  have X : ∀ x y z n, mulL (subL [((1 : Int) : Rat) * x, w * y, ((1 : Int) : Rat) * z] (scaleL n [((1 : Int) : Rat), w, ((1 : Int) : Rat)])) (subL [((1 : Int) : Rat) * x, w * y, ((1 : Int) : Rat) * z] (scaleL n [((1 : Int) : Rat), w, ((1 : Int) : Rat)])) = [(x - n) * (x - n), ((x - n) * (w * y - n * w) + (w * y - n * w) * (x - n)) / 2, ((x - n) * (z - n) + 4 * ((w * y - n * w) * (w * y - n * w)) + (z - n) * (x - n)) / 6, ((w * y - n * w) * (z - n) + (z - n) * (w * y - n * w)) / 2, (z - n) * (z - n)] := fun x y z n => by rw [x3w, mul3]
  have hS : sumL (numsV (arc3 a b c w).2.2) m = addL (addL (mulL (subL [((1 : Int) : Rat) * a.1, w * b.1, ((1 : Int) : Rat) * c.1] (scaleL m.1 [((1 : Int) : Rat), w, ((1 : Int) : Rat)])) (subL [((1 : Int) : Rat) * a.1, w * b.1, ((1 : Int) : Rat) * c.1] (scaleL m.1 [((1 : Int) : Rat), w, ((1 : Int) : Rat)]))) (mulL (subL [((1 : Int) : Rat) * a.2.1, w * b.2.1, ((1 : Int) : Rat) * c.2.1] (scaleL m.2.1 [((1 : Int) : Rat), w, ((1 : Int) : Rat)])) (subL [((1 : Int) : Rat) * a.2.1, w * b.2.1, ((1 : Int) : Rat) * c.2.1] (scaleL m.2.1 [((1 : Int) : Rat), w, ((1 : Int) : Rat)])))) (mulL (subL [((1 : Int) : Rat) * a.2.2, w * b.2.2, ((1 : Int) : Rat) * c.2.2] (scaleL m.2.2 [((1 : Int) : Rat), w, ((1 : Int) : Rat)])) (subL [((1 : Int) : Rat) * a.2.2, w * b.2.2, ((1 : Int) : Rat) * c.2.2] (scaleL m.2.2 [((1 : Int) : Rat), w, ((1 : Int) : Rat)]))) := rfl
  rw [X, X, X] at hS
  have hW : wtL (numsV (arc3 a b c w).2.2) = mulL [((1 : Int) : Rat), w, ((1 : Int) : Rat)] [((1 : Int) : Rat), w, ((1 : Int) : Rat)] := rfl
  rw [mul3, one_i] at hW
  -- the five quotients
  have q : ∀ i, qq (numsV (arc3 a b c w).2.2) m i = (sumL (numsV (arc3 a b c w).2.2) m).getD i 0 / (wtL (numsV (arc3 a b c w).2.2)).getD i 0 := fun i => rfl
  have wp : 0 < (1 : Rat) * 1 ∧ 0 < (1 * w + w * 1) / 2 ∧ 0 < (1 * 1 + 4 * (w * w) + 1 * 1) / 6 ∧ 0 < (w * 1 + 1 * w) / 2 := ⟨by decide +kernel, by grind, by grind, by grind⟩
  have e0 : 0 ≤ (1 - t) * (1 - t) * (1 - t) * (1 - t) := Rat.mul_nonneg (Rat.mul_nonneg (Rat.mul_nonneg u u) u) u
  have e1 : 0 ≤ 4 * t * (1 - t) * (1 - t) * (1 - t) := Rat.mul_nonneg (Rat.mul_nonneg (Rat.mul_nonneg (Rat.mul_nonneg (by decide) h0) u) u) u
  have e2 : 0 ≤ 6 * t * t * (1 - t) * (1 - t) := Rat.mul_nonneg (Rat.mul_nonneg (Rat.mul_nonneg (Rat.mul_nonneg (by decide) h0) h0) u) u
  have e3 : 0 ≤ 4 * t * t * t * (1 - t) := Rat.mul_nonneg (Rat.mul_nonneg (Rat.mul_nonneg (Rat.mul_nonneg (by decide) h0) h0) h0) u
  have e4 : 0 ≤ t * t * t * t := Rat.mul_nonneg (Rat.mul_nonneg (Rat.mul_nonneg h0 h0) h0) h0
  have hdd : 0 < den3 w t * den3 w t := Rat.mul_pos hD hD
  -- the squared distance, times the square of the weight
  have hr : dotQ (subV (evV (arc3 a b c w) t) m) (subV (evV (arc3 a b c w) t) m) * (den3 w t * den3 w t) = (num3 w t a.1 b.1 c.1 - m.1 * den3 w t) * (num3 w t a.1 b.1 c.1 - m.1 * den3 w t) + (num3 w t a.2.1 b.2.1 c.2.1 - m.2.1 * den3 w t) * (num3 w t a.2.1 b.2.1 c.2.1 - m.2.1 * den3 w t) + (num3 w t a.2.2 b.2.2 c.2.2 - m.2.2 * den3 w t) * (num3 w t a.2.2 b.2.2 c.2.2 - m.2.2 * den3 w t) := by
    rw [ev3 a b c w t h0 h1]
    show ((1 / den3 w t * num3 w t a.1 b.1 c.1 - m.1) * (1 / den3 w t * num3 w t a.1 b.1 c.1 - m.1) + (1 / den3 w t * num3 w t a.2.1 b.2.1 c.2.1 - m.2.1) * (1 / den3 w t * num3 w t a.2.1 b.2.1 c.2.1 - m.2.1) + (1 / den3 w t * num3 w t a.2.2 b.2.2 c.2.2 - m.2.2) * (1 / den3 w t * num3 w t a.2.2 b.2.2 c.2.2 - m.2.2)) * (den3 w t * den3 w t) = _
    rw [Rat.add_mul, Rat.add_mul, coordv hD, coordv hD, coordv hD]
  rw [← coord w t a.1 b.1 c.1 m.1, ← coord w t a.2.1 b.2.1 c.2.1 m.2.1, ← coord w t a.2.2 b.2.2 c.2.2 m.2.2, ← five_add, ← coordw w t] at hr
  rw [← coordw w t] at hdd
  have s0 : qq (numsV (arc3 a b c w).2.2) m 0 = _ := q 0
  have s1 : qq (numsV (arc3 a b c w).2.2) m 1 = _ := q 1
  have s2 : qq (numsV (arc3 a b c w).2.2) m 2 = _ := q 2
  have s3 : qq (numsV (arc3 a b c w).2.2) m 3 = _ := q 3
  have s4 : qq (numsV (arc3 a b c w).2.2) m 4 = _ := q 4
  rw [hS, hW] at s0 s1 s2 s3 s4
  unfold reachF
  refine ⟨Rat.le_of_mul_le_mul_right ?_ hdd, Rat.le_of_mul_le_mul_right ?_ hdd⟩
  · rw [hr]
    refine five_le e0 e1 e2 e3 e4 (le_divm wp.1 (Rat.le_trans ?_ (rle_eq s0))) (le_divm wp.2.1 (Rat.le_trans ?_ (rle_eq s1))) (le_divm wp.2.2.1 (Rat.le_trans ?_ (rle_eq s2))) (le_divm wp.2.2.2 (Rat.le_trans ?_ (rle_eq s3))) (le_divm wp.1 (Rat.le_trans ?_ (rle_eq s4)))
    · exact Rat.le_trans (min_1 _ _) (Rat.le_trans (min_1 _ _) (Rat.le_trans (min_1 _ _) (Rat.le_trans (min_1 _ _) (min_1 _ _))))
    · exact Rat.le_trans (min_1 _ _) (Rat.le_trans (min_1 _ _) (Rat.le_trans (min_1 _ _) (min_2 _ _)))
    · exact Rat.le_trans (min_1 _ _) (Rat.le_trans (min_1 _ _) (min_2 _ _))
    · exact Rat.le_trans (min_1 _ _) (min_2 _ _)
    · exact min_2 _ _
  · rw [hr]
    refine five_ge e0 e1 e2 e3 e4 (div_lem wp.1 (Rat.le_trans (rle_eq s0.symm) ?_)) (div_lem wp.2.1 (Rat.le_trans (rle_eq s1.symm) ?_)) (div_lem wp.2.2.1 (Rat.le_trans (rle_eq s2.symm) ?_)) (div_lem wp.2.2.2 (Rat.le_trans (rle_eq s3.symm) ?_)) (div_lem wp.1 (Rat.le_trans (rle_eq s4.symm) ?_))
    · exact Rat.le_trans (Rat.le_trans (Rat.le_trans (Rat.le_trans (max_1 _ _) (max_1 _ _)) (max_1 _ _)) (max_1 _ _)) (max_1 _ _)
    · exact Rat.le_trans (Rat.le_trans (Rat.le_trans (max_2 _ _) (max_1 _ _)) (max_1 _ _)) (max_1 _ _)
    · exact Rat.le_trans (Rat.le_trans (max_2 _ _) (max_1 _ _)) (max_1 _ _)
    · exact Rat.le_trans (max_2 _ _) (max_1 _ _)
    · exact max_2 _ _
end
theorem arcR_b5 {p d e : V3} {k : Int} (hp : Bnd tV3 (bV3 5) p) (hd : Bnd tV3 (bV3 5) d) (he : Bnd tV3 (bV3 5) e) : Bnd tCurve (bCurve 2047) (arcR p d e k).1 := by
  have z : ∀ c : Int, Bnd tCurve (bCurve 2047) (zeroA c).1 := fun c => ⟨by show Int.natAbs 0 ≤ 6; decide, ⟨by show 0 ≤ 6; omega, fun v hv => by simp [zeroA] at hv⟩, by show 0 ≤ 3; omega, fun v hv => by simp [zeroA] at hv⟩
  unfold arcR
  split
  · exact z 1
  · rename_i h
    split
    · exact z 9
    · split
      · exact z 6
      · split
        · exact z 7
        · have hk2 : k.toNat ≤ 64 := by omega
          have m5 : (bV3 5).mx = 5 := by decide
          have hdd : Bnd .rat (.n 32) (dotQ d d) := rat_le (dotQ_b hd hd) (by rw [m5]; omega)
          have hee : Bnd .rat (.n 32) (dotQ e e) := rat_le (dotQ_b he he) (by rw [m5]; omega)
          have hu : Bnd .rat (.n 194) (arcU d e k) := rat_le (rootLo_b (div_b hdd hee) hk2) (by simp only [Bd.nb]; omega)
          have hf : Bnd tV3 (bV3 200) (arcF d e k) := v3_le (scaleV_b hu he) (by rw [m5]; simp only [Bd.mx]; omega)
          have m200 : (bV3 200).mx = 200 := by decide
          have hdf : Bnd .rat (.n 700) (arcDF d e k) := rat_le (dotQ_b hd hf) (by rw [m5, m200]; omega)
          have hw : Bnd .rat (.n 2000) (arcW d e k) := rat_le (rootLo_b (div_b (sub_b hdd hdf) (add_b hdd hdd)) hk2) (by simp only [Bd.nb]; omega)
          have hpd : Bnd tV3 (bV3 2047) (addV p d) := v3_le (addV_b hp hd) (by rw [m5]; omega)
          have hpf : Bnd tV3 (bV3 2047) (addV p (arcF d e k)) := v3_le (addV_b hp hf) (by rw [m5, m200]; omega)
          refine ⟨by show Int.natAbs 2 ≤ 6; decide, ⟨Nat.le_refl 6, fun v hv => ?_⟩, Nat.le_refl 3, fun v hv => ?_⟩
          · simp only [List.mem_cons, List.not_mem_nil, or_false] at hv
            rcases hv with rfl | rfl | rfl | rfl | rfl | rfl <;> first | exact zero_bn _ | exact one_b _ (by omega)
          · simp only [List.mem_cons, List.not_mem_nil, or_false] at hv
            rcases hv with rfl | rfl | rfl
            · exact ⟨hpd, one_b _ (by omega)⟩
            · exact ⟨v3_le hp (by omega), rat_le hw (by omega)⟩
            · exact ⟨hpf, one_b _ (by omega)⟩
structure ReachE (p x y : V3) (k : Int) (t : Rat) : Prop where
  hc : chkC (arcR p x y k).1 = 0
  ev : EvC (arcR p x y k).1 t
  hi : ivE (arcR p x y k).1.2.1 t = 0
  hl : (arcR p x y k).1.2.2.length = 3
  h1 : cmpQ (arcR p x y k).2.2.1.1 (dotQ (subV (evV (arcR p x y k).1 t) (arcR p x y k).2.1) (subV (evV (arcR p x y k).1 t) (arcR p x y k).2.1)) ≤ 0
  h2 : cmpQ (dotQ (subV (evV (arcR p x y k).1 t) (arcR p x y k).2.1) (subV (evV (arcR p x y k).1 t) (arcR p x y k).2.1)) (arcR p x y k).2.2.1.2 ≤ 0
  ha : ((arcR p x y k).1.2.2.getD 0 d0).1 = addV p x
  hx : crossQ (subV ((arcR p x y k).1.2.2.getD ((arcR p x y k).1.2.2.length - 1) d0).1 p) y = (0, 0, 0)
  hd : 0 < sgnQ (dotQ (subV ((arcR p x y k).1.2.2.getD ((arcR p x y k).1.2.2.length - 1) d0).1 p) y)
  hm : ((arcR p x y k).1.2.2.getD 1 d0).1 = p
theorem reach_codes {p x y : V3} {k : Int} (hk : 0 ≤ k ∧ k ≤ 64) (h0 : (arcR p x y k).2.2.2 ≠ 0) (h1 : ¬ (arcR p x y k).2.2.2 = 9) (h2 : ¬ (arcR p x y k).2.2.2 = 6) (h3 : ¬ (arcR p x y k).2.2.2 = 7) : False := by
  have : (arcR p x y k).2.2.2 = 9 ∨ (arcR p x y k).2.2.2 = 6 ∨ (arcR p x y k).2.2.2 = 7 ∨ (arcR p x y k).2.2.2 = 0 := by
    unfold arcR
    rw [if_neg (show ¬ (k < 0 ∨ 64 < k) by omega)]
    split
    · exact .inl rfl
    · split
      · exact .inr (.inl rfl)
      · split
        · exact .inr (.inr (.inl rfl))
        · exact .inr (.inr (.inr rfl))
  omega
theorem k6_chk (ps : List Pole) (hl : ps.length = 3) (h : ∀ i, i < 3 → 0 < sgnQ (ps.getD i d0).2) : chkC (2, K6, ps) = 0 := by
  have hk : chkK K6 2 = 0 := by decide +kernel
  have hw : wgtN ps ps.length = true := by
    rw [hl]; simp only [wgtN]
    rw [decide_eq_true (h 0 (by omega)), decide_eq_true (h 1 (by omega)), decide_eq_true (h 2 (by omega))]; rfl
  unfold chkC
  rw [show ((2, K6, ps) : Curve).2.1 = K6 from rfl, show ((2, K6, ps) : Curve).1 = 2 from rfl, show ((2, K6, ps) : Curve).2.2 = ps from rfl, hk, if_neg (by decide), if_neg (by rw [hl]; decide), if_neg (by rw [hw]; decide)]
theorem reach_e {p x y : V3} {k : Int} {t : Rat} (hp : Bnd tV3 (bV3 5) p) (hx : Bnd tV3 (bV3 5) x) (hy : Bnd tV3 (bV3 5) y) (h0 : 0 ≤ t) (h1 : t ≤ 1) (ht : Bnd .rat (.n 5) t) (hc : ¬ (arcR p x y k).2.2.2 ≠ 0) : ReachE p x y k t := by
  have hc : (arcR p x y k).2.2.2 = 0 := Decidable.not_not.1 hc
  have hb := arcR_b5 (k := k) hp hx hy
  by_cases g1 : k < 0 ∨ 64 < k
  · rw [← arc_1 g1] at hc; exact absurd hc (by decide)
  by_cases g2 : crossQ x y = (0, 0, 0)
  · rw [← arc_2 g1 g2] at hc; exact absurd hc (by decide)
  by_cases g3 : sgnQ (arcU x y k) = 0 ∨ sgnQ (arcW x y k) = 0
  · rw [← arc_3 g1 g2 g3] at hc; exact absurd hc (by decide)
  by_cases g4 : quoC (dotQ x x + arcDF x y k) ≠ 0
  · rw [← arc_4 g1 g2 g3 g4] at hc; exact absurd hc (by decide)
  have e := arc_5 (p := p) g1 g2 g3 g4
  rw [← e] at hb
  have sp : ∀ r : Rat, 0 ≤ r → sgnQ r ≠ 0 → 0 < r := fun r hr hn => by
    rcases Rat.le_iff_lt_or_eq.1 hr with h | h
    · exact h
    · subst h; exact absurd rfl hn
  have hu := sp _ (root_nn _ _) (fun h => g3 (.inl h))
  have hw := sp _ (root_nn _ _) (fun h => g3 (.inr h))
  have r3 := reach3 (a := addV p x) (b := p) (c := addV p (arcF x y k)) (m := arcCen p x y k) hw h0 h1
  have sf : subV (addV p (arcF x y k)) p = arcF x y k := by
    unfold subV addV; refine Prod.ext ?_ (Prod.ext ?_ ?_) <;> simp only [] <;> grind
  have yy : 0 < dotQ y y := by
    have n : 0 ≤ y.1 * y.1 ∧ 0 ≤ y.2.1 * y.2.1 ∧ 0 ≤ y.2.2 * y.2.2 := ⟨sq_nn _, sq_nn _, sq_nn _⟩
    rcases Rat.le_iff_lt_or_eq.1 (show 0 ≤ dotQ y y by unfold dotQ; exact Rat.add_nonneg (Rat.add_nonneg n.1 n.2.1) n.2.2) with h | h
    · exact h
    · exfalso
      apply g2
      unfold dotQ at h
      have a1 : y.1 * y.1 = 0 := by grind
      have a2 : y.2.1 * y.2.1 = 0 := by grind
      have a3 : y.2.2 * y.2.2 = 0 := by grind
      have b1 : y.1 = 0 := by grind
      have b2 : y.2.1 = 0 := by grind
      have b3 : y.2.2 = 0 := by grind
      unfold crossQ
      rw [b1, b2, b3]
      refine Prod.ext ?_ (Prod.ext ?_ ?_) <;> simp only [] <;> grind
  have one : 0 < sgnQ (((1 : Int) : Rat)) := by decide
  refine ⟨?_, ?_, ?_, ?_, ?_, ?_, ?_, ?_, ?_, ?_⟩ <;> rw [← e]
  · refine k6_chk _ rfl (fun i hi => ?_)
    match i, hi with
    | 0, _ => exact one
    | 1, _ => exact sgn_pos.2 hw
    | 2, _ => exact one
  · exact ⟨⟨by show 6 ≤ 64; omega, fun v hv => rat_le (hb.2.1.2 v hv) (by omega)⟩, fun q hq => ⟨v3_le (hb.2.2.2 q hq).1 (by omega), rat_le (hb.2.2.2 q hq).2 (by omega)⟩, rat_le ht (by omega), by show (0 : Int) ≤ 2; decide, by show (2 : Int) ≤ 6; decide, by show 2 * (2 : Int).toNat + 2 ≤ 6; decide, rfl, .inr (by show (2 : Int).toNat ≤ ivI K6 2 t; rw [k6_i h0 h1]; decide)⟩
  · exact (ivE_3 (k6_in h0 h1)).symm
  · rfl
  · exact cmp_le.2 r3.1
  · exact cmp_le.2 r3.2
  · rfl
  · show crossQ (subV (addV p (arcF x y k)) p) y = (0, 0, 0)
    rw [sf]; unfold arcF crossQ scaleV
    refine Prod.ext ?_ (Prod.ext ?_ ?_) <;> simp only [] <;> grind
  · show 0 < sgnQ (dotQ (subV (addV p (arcF x y k)) p) y)
    rw [sf]; refine sgn_pos.2 ?_
    have : dotQ (arcF x y k) y = arcU x y k * dotQ y y := by unfold arcF dotQ scaleV; simp only []; grind
    rw [this]; exact Rat.mul_pos hu yy
  · rfl
end Go.Proofs.YtcjgaaibflcdiaaGreat.Sx

namespace Go.Proofs.YtcjgaaibflcdiaaGreat.Sx
open Go Go.Proofs
set_option linter.unusedVariables false
set_option linter.unusedSimpArgs false
set_option maxRecDepth 20000
set_option maxHeartbeats 4000000
abbrev vsubr_i : FI := ⟨22, [(.pr .rat (.pr .rat .rat)), (.pr .rat (.pr .rat .rat))], [(.p (.n 4294967296) (.p (.n 4294967296) (.n 4294967296))), (.p (.n 4294967296) (.p (.n 4294967296) (.n 4294967296)))], fun _ => [], fun b z => (fun (p : Rat × Rat × Rat) (q : Rat × Rat × Rat) => .c (.agg [.dt tV3 (bV3 ((b0 b).mx + (b1 b).mx + 1)) (subV p q)])) z.1 z.2⟩
theorem vsubr_k : vsubr_i.OK Tryz.prog := mkF hmix 20 Tryz.func22 rfl rfl (by decide) [(34, .c ysub_c)] (fun _ => rfl) (fun _ => rfl) (fun _ _ => rfl) (fun (p : Rat × Rat × Rat) (q : Rat × Rat × Rat) b hx hp => v3_ok (subV_b (Bnds.h2 hx).1 (Bnds.h2 hx).2)) (fun (p : Rat × Rat × Rat) (q : Rat × Rat × Rat) hx hp => by
 exact ⟨.nil, kcast (by kernel_rfl) ((rfl : (p.1 - q.1, p.2.1 - q.2.1, p.2.2 - q.2.2) = subV p q))⟩)
abbrev vsubr_c : Ctr Tryz.prog := FI.c vsubr_k
theorem next8 (s : Dice) : 0 ≤ 3 + nextV s 8 ∧ 3 + nextV s 8 ≤ 64 := by have := nextV_r s (m := 8) (by omega); omega
abbrev lreach_i : FI := ⟨4, [(.sl (.int .i64)), (.int .i64)], [(.s 9223372036854775807 (.n 9223372036854775808)), (.n 9223372036854775808)], fun _ => [], fun b z => .c (.one (.vl (.bool true)))⟩
theorem lreach_k : lreach_i.OK Tryz.prog := mkF hmix 133 Tryz.func4 rfl rfl (by decide) [(7, .c light_c), (8, .c lsane_c), (9, .o droll_c), (10, .b dspot_c), (11, .b dpoint_c), (13, .c aArc_c), (16, .c vsamer_c), (18, .b dnext_c), (19, .c ccheck_c), (20, .c keval_c), (21, .c dpart_c), (22, .c vsubr_c), (23, .c vdotr_c), (24, .c kends_c), (25, .c ycmp_c), (26, .c vaddr_c), (27, .c vzeror_c), (28, .c vcrossr_c), (29, .c ysign_c)] (fun _ => rfl) (fun _ => rfl) (fun _ _ => rfl) (fun (l : List Int) (t : Int) b hx hp => vl_ok rfl) (fun (l : List Int) (t : Int) hx hp => by
 have hl0 : l.length ≤ 9223372036854775807 := hx.1.1
 have he0 : ∀ u ∈ l, Bnd (.int .i64) (.n 9223372036854775808) u := hx.1.2
 have hx1 : Int.natAbs t ≤ 9223372036854775808 := hx.2
 exact ⟨.cond (.nil) (.pre 3 (.bd 0 (.s 1048576 (.n 9223372036854775808))) ((fun (P : Rat × Rat × Rat) => (fun (X : Rat × Rat × Rat) => (fun (Y : Rat × Rat × Rat) => (fun (K : Int) => .pre 1000013 (.bd 41 (.p (.n 6) (.p (.s 6 (.n 2047)) (.s 3 (.p (.p (.n 2047) (.p (.n 2047) (.n 2047))) (.n 2047)))))) (.cond (.cond (.nil) (.cond (.nil) (.cond (.nil) (.dead)))) (.cond (.dead) (.cond (.cond (.cond (.cond (.cond (.cond (.cond (.nil) (.dead)) (.dead)) (.dead)) (.dead)) (.dead)) (.dead)) (.dead))))) (3 + (nextV (pointS (pointS (spotS (l, 0)))) 8))) (pointV (pointS (spotS (l, 0))))) (pointV (spotS (l, 0)))) (spotV (l, 0)))), kcast (by kernel_rfl) (And.intro (fun (h1 : (!(decide (l.length ≤ 500))) = true) => trivial) (fun (h2 : ¬ ((!(decide (l.length ≤ 500))) = true)) => have hl5 := (nd' h2 : l.length ≤ 500); I (⟨by omega, he0⟩ : Bnd (.sl (.int .i64)) (.s 1048576 (.n 9223372036854775808)) l) ((fun (P : Rat × Rat × Rat) (hP0 : P = spotV (l, 0)) => (fun (X : Rat × Rat × Rat) (hX0 : X = pointV (spotS (l, 0))) => (fun (Y : Rat × Rat × Rat) (hY0 : Y = pointV (pointS (spotS (l, 0)))) => have hP := (show Bnd tV3 (bV3 5) P from by rw [hP0]; exact spotV_b _); have hX := (show Bnd tV3 (bV3 5) X from by rw [hX0]; exact pointV_b _); have hY := (show Bnd tV3 (bV3 5) Y from by rw [hY0]; exact pointV_b _); I (by omega : (0 : Int) < 8) ((fun (K : Int) (hK0 : K = 3 + (nextV (pointS (pointS (spotS (l, 0)))) 8)) => have hK := (show 0 ≤ K ∧ K ≤ 64 from by rw [hK0]; exact next8 _); I (v3_le hP (by omega) : Bnd tV3 (bV3 16) P) (I (v3_le hX (by omega) : Bnd tV3 (bV3 16) X) (I (v3_le hY (by omega) : Bnd tV3 (bV3 16) Y) (I (arcR_b5 hP hX hY : Bnd (.pr (.int .i64) (.pr (.sl .rat) (.sl (.pr (.pr .rat (.pr .rat .rat)) .rat)))) (.p (.n 6) (.p (.s 6 (.n 2047)) (.s 3 (.p (.p (.n 2047) (.p (.n 2047) (.n 2047))) (.n 2047))))) ((arcR P X Y K).1)) (And.intro (fun (h3 : (arcR P X Y K).2.2.2 ≠ 0) => And.intro (fun (h4 : (arcR P X Y K).2.2.2 = 9) => trivial) (fun (h5 : ¬ ((arcR P X Y K).2.2.2 = 9)) => And.intro (fun (h6 : (arcR P X Y K).2.2.2 = 6) => trivial) (fun (h7 : ¬ ((arcR P X Y K).2.2.2 = 6)) => And.intro (fun (h8 : (arcR P X Y K).2.2.2 = 7) => trivial) (fun (h9 : ¬ ((arcR P X Y K).2.2.2 = 7)) => (reach_codes (by omega) h3 h5 h7 h9 : False))))) (fun (h10 : ¬ ((arcR P X Y K).2.2.2 ≠ 0)) => have hE := (reach_e hP hX hY (partV_01 t).1 (partV_01 t).2 (partV_b t) h10 : ReachE P X Y K (partV t)); have hEl := hE.hl; And.intro (fun (h11 : chkC ((arcR P X Y K).1) ≠ 0) => (h11 hE.hc : False)) (fun (h12 : ¬ (chkC ((arcR P X Y K).1) ≠ 0)) => I (hE.ev : EvC ((arcR P X Y K).1) (partV t)) (I (by omega : 0 < ((arcR P X Y K).1).2.2.length) (And.intro (fun (h13 : ivE ((arcR P X Y K).1).2.1 (partV t) = 0) => And.intro (fun (h14 : cmpQ (((arcR P X Y K).2.2.1).1) (dotQ (subV (evV ((arcR P X Y K).1) (partV t)) ((arcR P X Y K).2.1)) (subV (evV ((arcR P X Y K).1) (partV t)) ((arcR P X Y K).2.1))) ≤ 0) => And.intro (fun (h15 : cmpQ (dotQ (subV (evV ((arcR P X Y K).1) (partV t)) ((arcR P X Y K).2.1)) (subV (evV ((arcR P X Y K).1) (partV t)) ((arcR P X Y K).2.1))) (((arcR P X Y K).2.2.1).2) ≤ 0) => And.intro (fun (h16 : decide (((((arcR P X Y K).1).2.2.getD 0 ((0, 0, 0), 0)).1) = (addV P X)) = true) => And.intro (fun (h17 : decide ((crossQ (subV ((((arcR P X Y K).1).2.2.getD (((arcR P X Y K).1).2.2.length - 1) ((0, 0, 0), 0)).1) P) Y) = (0, 0, 0)) = true) => And.intro (fun (h18 : 0 < sgnQ (dotQ (subV ((((arcR P X Y K).1).2.2.getD (((arcR P X Y K).1).2.2.length - 1) ((0, 0, 0), 0)).1) P) Y)) => I (by omega : 1 < ((((arcR P X Y K).1).2).2).length) (And.intro (fun (h19 : decide (((((((arcR P X Y K).1).2).2).getD 1 ((0, (0, 0)), 0)).1) = P) = true) => trivial) (fun (h20 : ¬ (decide (((((((arcR P X Y K).1).2).2).getD 1 ((0, (0, 0)), 0)).1) = P) = true)) => (h20 (decide_eq_true hE.hm) : False)))) (fun (h21 : ¬ (0 < sgnQ (dotQ (subV ((((arcR P X Y K).1).2.2.getD (((arcR P X Y K).1).2.2.length - 1) ((0, 0, 0), 0)).1) P) Y))) => (h21 hE.hd : False))) (fun (h22 : ¬ (decide ((crossQ (subV ((((arcR P X Y K).1).2.2.getD (((arcR P X Y K).1).2.2.length - 1) ((0, 0, 0), 0)).1) P) Y) = (0, 0, 0)) = true)) => (h22 (decide_eq_true hE.hx) : False))) (fun (h23 : ¬ (decide (((((arcR P X Y K).1).2.2.getD 0 ((0, 0, 0), 0)).1) = (addV P X)) = true)) => (h23 (decide_eq_true hE.ha) : False))) (fun (h24 : ¬ (cmpQ (dotQ (subV (evV ((arcR P X Y K).1) (partV t)) ((arcR P X Y K).2.1)) (subV (evV ((arcR P X Y K).1) (partV t)) ((arcR P X Y K).2.1))) (((arcR P X Y K).2.2.1).2) ≤ 0)) => (h24 hE.h2 : False))) (fun (h25 : ¬ (cmpQ (((arcR P X Y K).2.2.1).1) (dotQ (subV (evV ((arcR P X Y K).1) (partV t)) ((arcR P X Y K).2.1)) (subV (evV ((arcR P X Y K).1) (partV t)) ((arcR P X Y K).2.1))) ≤ 0)) => (h25 hE.h1 : False))) (fun (h26 : ¬ (ivE ((arcR P X Y K).1).2.1 (partV t) = 0)) => (h26 hE.hi : False))))))))))) (3 + (nextV (pointS (pointS (spotS (l, 0)))) 8)) rfl)) (pointV (pointS (spotS (l, 0)))) rfl) (pointV (spotS (l, 0))) rfl) (spotV (l, 0)) rfl)))⟩)
end Go.Proofs.YtcjgaaibflcdiaaGreat.Sx
