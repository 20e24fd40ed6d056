/-
Own laws and walks for the claim, part 7: WJr, WJs. No condition.
-/
import Derived.Test.YtcjgaaibflcdiaaGreatD6
namespace Go.Proofs.YtcjgaaibflcdiaaGreat.Sx
open Go Go.Proofs
set_option linter.unusedVariables false
set_option linter.unusedSimpArgs false
set_option maxRecDepth 20000
set_option maxHeartbeats 4000000
section
theorem KO {l : List Pole} : ∀ {n : Nat}, wgtN l n = true → ∀ i, i < n → 0 < (l.getD i d0).2
 | 0, _, i, h => absurd h (Nat.not_lt_zero i)
 | n + 1, h, i, hi => by
  rw [wgtN, Bool.and_eq_true, decide_eq_true_eq] at h
  by_cases e : i = n
  ·subst e; exact V7.1 h.2
  ·exact KO h.1 i (by omega)
theorem Sg {ps : List Pole} {l : List Rat} {f : Nat} : ∀ n, (homN ps l f n).2.2.2 = sm (fun j => l.getD j 0 * (ps.getD (f + j) d0).2) n
 | 0 => rfl
 | n + 1 => by rw [sm, ← Sg n]; rfl
theorem Ol {f g : Nat → Rat} : ∀ n, (∀ j, j < n → 0 ≤ f j ∧ 0 < g j) → 0 ≤ sm (fun j => f j * g j) n ∧ (sm (fun j => f j * g j) n = 0 → sm f n = 0)
 | 0, _ => ⟨Rat.le_refl, fun _ => rfl⟩
 | n + 1, h => by
  have ih := Ol n fun j hj => h j (by omega)
  have h1 := h n (by omega)
  have p := Rat.mul_nonneg h1.1 (Rat.le_of_lt h1.2)
  refine ⟨by rw [sm]; exact Rat.add_nonneg ih.1 p, fun e => ?_⟩
  rw [sm] at e
  have e1 : sm (fun j => f j * g j) n = 0 := by have := ih.1; grind
  have e2 : f n * g n = 0 := by grind
  rcases Rat.mul_eq_zero.1 e2 with q | q
  ·rw [sm, ih.2 e1, q]; exact Rat.add_zero 0
  ·have := h1.2; rw [q] at this; exact absurd this (Rat.lt_irrefl)
theorem J3 {f g : Nat → Rat} : ∀ n, (∀ j, j < n → f j = g j) → sm f n = sm g n
 | 0, _ => rfl
 | n + 1, h => by rw [sm, sm, J3 n fun j hj => h j (by omega), h n (by omega)]
theorem WD {k : List Rat} {d : Int} {t : Rat} (h : ¬ ivO k t) {j : Nat} (hj : j < d.toNat + 1) : (bvlL k d t).getD j 0 = bsp k t (ivI k d t) d.toNat (ivI k d t - d.toNat + j) := by
 unfold bvlL; rw [if_neg h, List.getD_eq_getElem?_getD]; simp [hj]
theorem TC {c : qN} {t : Rat} (hk : chkC c = 0) (ht : ¬ ivO c.2.1 t) : 0 < (homV c t).2.2.2 := by
 unfold chkC at hk
 split at hk
 ·rename_i h1; exact absurd hk h1
 rename_i h1
 split at hk
 ·cases hk
 rename_i h2
 split at hk
 ·cases hk
 rename_i h3
 have h1 : chkK c.2.1 c.1 = 0 := Decidable.not_not.1 h1
 have h2 : ((c.2.2.length : Nat) : Int) = (c.2.1.length : Int) - c.1 - 1 := Decidable.not_not.1 h2
 obtain ⟨d1, d6, _, cl⟩ := FP h1
 have iv := cl.iv ht
 have s1 := JT iv c.1.toNat (Nat.le_refl _)
 have hl := FN (d := c.1) ht
 have hw := KO (l := c.2.2) (n := c.2.2.length) (by simpa using h3)
 have lo := iv.lo; have hi := iv.hi
 show 0 < (homN c.2.2 (bvlL c.2.1 c.1 t) _ (bvlL c.2.1 c.1 t).length).2.2.2
 rw [Sg, hl]
 have e : sm (fun j => (bvlL c.2.1 c.1 t).getD j 0 * (c.2.2.getD (ivI c.2.1 c.1 t - c.1.toNat + j) d0).2) (c.1.toNat + 1) = sm (fun j => bsp c.2.1 t (ivI c.2.1 c.1 t) c.1.toNat (ivI c.2.1 c.1 t - c.1.toNat + j) * (c.2.2.getD (ivI c.2.1 c.1 t - c.1.toNat + j) d0).2) (c.1.toNat + 1) :=
  J3 _ fun j hj => by rw [WD ht hj]
 rw [e]
 have p := Ol (f := fun j => bsp c.2.1 t (ivI c.2.1 c.1 t) c.1.toNat (ivI c.2.1 c.1 t - c.1.toNat + j)) (g := fun j => (c.2.2.getD (ivI c.2.1 c.1 t - c.1.toNat + j) d0).2) (c.1.toNat + 1) fun j hj => ⟨HL iv _ _ (Nat.le_refl _), hw _ (by omega)⟩
 rcases Rat.le_iff_lt_or_eq.1 p.1 with q | q
 ·exact q
 ·have := p.2 q.symm
  rw [s1] at this; exact absurd this (by decide)
theorem Id {ps qs : List Pole} {l : List Rat} {f : Nat} {v : V3} : ∀ n, f + n ≤ ps.length → (∀ i, i < ps.length → qs.getD i d0 = (addV (ps.getD i d0).1 v, (ps.getD i d0).2)) →
    homN qs l f n = ((homN ps l f n).1 + (homN ps l f n).2.2.2 * v.1, (homN ps l f n).2.1 + (homN ps l f n).2.2.2 * v.2.1, (homN ps l f n).2.2.1 + (homN ps l f n).2.2.2 * v.2.2, (homN ps l f n).2.2.2)
  | 0, _, _ => by
    show ((0 : Rat), (0 : Rat), (0 : Rat), (0 : Rat)) = (0 + 0 * v.1, 0 + 0 * v.2.1, 0 + 0 * v.2.2, 0)
    simp only [Rat.zero_mul, Rat.add_zero]
  | n + 1, hn, h => by
    have ih := Id (ps := ps) (qs := qs) (l := l) (f := f) (v := v) n (by omega) h
    rw [homN, ih, h (f + n) (by omega)]
    show _ = ((homS (homN ps l f n) (l.getD n 0) (vM (ps.getD (f + n) d0))).1 + (homS (homN ps l f n) (l.getD n 0) (vM (ps.getD (f + n) d0))).2.2.2 * v.1, (homS (homN ps l f n) (l.getD n 0) (vM (ps.getD (f + n) d0))).2.1 + (homS (homN ps l f n) (l.getD n 0) (vM (ps.getD (f + n) d0))).2.2.2 * v.2.1, (homS (homN ps l f n) (l.getD n 0) (vM (ps.getD (f + n) d0))).2.2.1 + (homS (homN ps l f n) (l.getD n 0) (vM (ps.getD (f + n) d0))).2.2.2 * v.2.2, (homS (homN ps l f n) (l.getD n 0) (vM (ps.getD (f + n) d0))).2.2.2)
    generalize homN ps l f n = H at *
    generalize ps.getD (f + n) d0 = p at *
    generalize l.getD n 0 = x at *
    unfold homS vM addV
    refine Prod.ext ?_ (Prod.ext ?_ (Prod.ext ?_ ?_)) <;> simp only [] <;> grind
theorem MG {X Y Z W : Rat} {v : V3} (hW : 0 < W) : ja (X + W * v.1, Y + W * v.2.1, Z + W * v.2.2, W) = (addV (ja (X, Y, Z, W)).1 v, W) := by
 have e1 : ((1 : Int) : Rat) = 1 := rfl
 have hu : 1 / W * W = 1 := Rat.div_mul_cancel (Ne.symm (Rat.ne_of_lt hW))
 unfold ja jc addV
 rw [e1]
 have k : ∀ a b : Rat, 1 / W * (a + W * b) = 1 / W * a + b := fun a b => by
  rw [Rat.mul_add, ← Rat.mul_assoc, hu, Rat.one_mul]
 simp only [k]
abbrev K4 : List Rat := [0, 0, ((1 : Int) : Rat), ((1 : Int) : Rat)]
theorem Lm {x : Rat} (h0 : 0 ≤ x) (h1 : x ≤ 1) : ¬ ivO K4 x := by
 have e1 : ((1 : Int) : Rat) = 1 := rfl
 unfold ivO
 show ¬ (cmpQ x 0 < 0 ∨ 0 < cmpQ x ((1 : Int) : Rat))
 rw [e1, wO]
 intro h
 rcases h with h | h
 ·grind
 ·have := Mu.2 h1; omega
theorem k4_i {x : Rat} (h0 : 0 ≤ x) (h1 : x ≤ 1) : ivI K4 1 x = 1 := by
 unfold ivI
 rw [if_neg (Lm h0 h1)]
 show ivl K4 x 1 = 1
 rw [ivl, if_neg]
 show ¬ cmpQ x 0 < 0
 rw [wO]; grind
theorem k4_0 {x : Rat} : bsp K4 x 1 1 0 = 1 - x := by
 have e1 : ((1 : Int) : Rat) = 1 := rfl
 show (if _ then _ else _) = _
 rw [if_neg (by omega)]
 show (x - 0) / (0 - 0) * (if 0 = 1 then ((1 : Int) : Rat) else 0) + (((1 : Int) : Rat) - x) / (((1 : Int) : Rat) - 0) * (if 0 + 1 = 1 then ((1 : Int) : Rat) else 0) = 1 - x
 rw [if_neg (by omega), if_pos rfl, e1, Rat.mul_zero, Rat.sub_eq_add_neg 1 0]
 have : (1 : Rat) + -0 = 1 := by decide +kernel
 rw [this, Rat.div_def]; have : (1 : Rat)⁻¹ = 1 := by decide +kernel
 rw [this]; grind
theorem k4_1 {x : Rat} : bsp K4 x 1 1 1 = x := by
 have e1 : ((1 : Int) : Rat) = 1 := rfl
 show (if _ then _ else _) = _
 rw [if_neg (by omega)]
 show (x - 0) / (((1 : Int) : Rat) - 0) * (if 1 = 1 then ((1 : Int) : Rat) else 0) + (((1 : Int) : Rat) - x) / (((1 : Int) : Rat) - ((1 : Int) : Rat)) * (if 1 + 1 = 1 then ((1 : Int) : Rat) else 0) = x
 rw [if_neg (show ¬ (1 + 1 = 1) by omega), if_pos rfl, e1, Rat.mul_zero, Rat.sub_eq_add_neg 1 0]
 have : (1 : Rat) + -0 = 1 := by decide +kernel
 rw [this, Rat.div_def]; have : (1 : Rat)⁻¹ = 1 := by decide +kernel
 rw [this]; grind
theorem U6 {p w : V3} {W x : Rat} (hW : 0 < W) (h0 : 0 ≤ x) (h1 : x ≤ 1) : evV (1, K4, [(p, W), (addV p w, W)]) x = addV p (jc x w) := by
 have hin := Lm h0 h1
 unfold evV
 rw [if_neg hin]
 have hi := k4_i h0 h1
 have b : bvlL K4 1 x = [1 - x, x] := by
  unfold bvlL
  rw [if_neg hin, hi]
  show [bsp K4 x 1 1 0, bsp K4 x 1 1 1] = _
  rw [k4_0, k4_1]
 have e : homV (1, K4, [(p, W), (addV p w, W)]) x = (W * (p.1 + x * w.1), W * (p.2.1 + x * w.2.1), W * (p.2.2 + x * w.2.2), W) := by
  show homN [(p, W), (addV p w, W)] (bvlL K4 1 x) (ivI K4 1 x - 1) (bvlL K4 1 x).length = _
  rw [b, hi]
  show homS (homS (0, 0, 0, 0) (1 - x) (vM (p, W))) x (vM (addV p w, W)) = _
  unfold homS vM addV
  refine Prod.ext ?_ (Prod.ext ?_ (Prod.ext ?_ ?_)) <;> simp only [] <;> grind
 rw [e]
 have e1 : ((1 : Int) : Rat) = 1 := rfl
 have hu : 1 / W * W = 1 := Rat.div_mul_cancel (Ne.symm (Rat.ne_of_lt hW))
 have k : ∀ a : Rat, 1 / W * (W * a) = a := fun a => by rw [← Rat.mul_assoc, hu, Rat.one_mul]
 unfold ja jc addV
 simp only [e1, k]
theorem Kt {c : qN} {v : V3} : ∀ {n i : Nat}, i < n → (rowN c v n).getD i [] = rowV v (c.2.2.getD i d0)
 | 0, i, h => absurd h (Nat.not_lt_zero i)
 | n + 1, i, h => by
  rw [rowN]
  by_cases e : i = n
  ·subst e
   rw [List.getD_eq_getElem?_getD, List.getElem?_append_right (by rw [va]; exact Nat.le_refl _), va]; simp
  ·rw [List.getD_eq_getElem?_getD, List.getElem?_append_left (by rw [va]; omega), ← List.getD_eq_getElem?_getD]
   exact Kt (by omega)
theorem FR {s : Surf} {j : Nat} : ∀ {n i : Nat}, i < n → (colN s j n).getD i d0 = (pRow s i).getD j d0
 | 0, i, h => absurd h (Nat.not_lt_zero i)
 | n + 1, i, h => by
  rw [colN]
  by_cases e : i = n
  ·subst e
   rw [List.getD_eq_getElem?_getD, List.getElem?_append_right (by rw [vH]; exact Nat.le_refl _), vH]; simp
  ·rw [List.getD_eq_getElem?_getD, List.getElem?_append_left (by rw [vH]; omega), ← List.getD_eq_getElem?_getD]
   exact FR (by omega)
theorem WP {l m : List Pole} (h : l.length = m.length) (k : ∀ i, i < l.length → l.getD i d0 = m.getD i d0) : l = m := by
 refine List.ext_getElem h fun i h1 h2 => ?_
 have := k i h1
 rwa [j1 h1, j1 h2] at this
section
variable {c : qN} {w : V3}
theorem BC {i : Nat} (hi : i < c.2.2.length) : pRow (qB c w) i = [c.2.2.getD i d0, (addV (c.2.2.getD i d0).1 w, (c.2.2.getD i d0).2)] := by
 show (rowN c w c.2.2.length).getD i [] = _
 rw [Kt hi]; rfl
theorem Rh {i : Nat} (hi : i < (qB c w).2.2.2.2.length) : (pRow (qB c w) i).length = (pRow (qB c w) 0).length := by
 have hi : i < (rowN c w c.2.2.length).length := hi
 rw [va] at hi
 rw [BC hi, BC (by omega)]; rfl
theorem YF (h : 0 < c.2.2.length) : qC (qB c w) = (1, c.1, K4, c.2.1, [c.2.2, colN (qB c w) 1 c.2.2.length]) := by
 have e : (pRow (qB c w) 0).length = 2 := by rw [BC h]; rfl
 have l : (qB c w).2.2.2.2.length = c.2.2.length := va c w _
 unfold qC
 rw [e]
 show (1, c.1, K4, c.2.1, [colN (qB c w) 0 (qB c w).2.2.2.2.length, colN (qB c w) 1 (qB c w).2.2.2.2.length]) = _
 rw [l]
 have : colN (qB c w) 0 c.2.2.length = c.2.2 := WP (vH _ _ _) fun i hi => by
  rw [vH] at hi
  rw [FR hi, BC hi]; rfl
 rw [this]
theorem YE {i : Nat} (hi : i < c.2.2.length) : (colN (qB c w) 1 c.2.2.length).getD i d0 = (addV (c.2.2.getD i d0).1 w, (c.2.2.getD i d0).2) := by
 rw [FR hi, BC hi]; rfl
end
theorem K5 {c : qN} {t : Rat} (hk : ∀ v ∈ c.2.1, Bnd .rat (.n 6) v) (hp : ∀ p ∈ c.2.2, Bnd j3 (qU 12) p) (ht : Bnd .rat (.n 26) t) (h6 : c.1 ≤ 6) : Bnd j3 (qU 200000) (ja (homV c t)) := by
 have hb : ∀ v ∈ bvlL c.2.1 c.1 t, Bnd .rat (.n 13547) v := fun v hv => by
  unfold bvlL at hv
  split at hv
  ·cases hv
  ·obtain ⟨j, _, rfl⟩ := List.mem_map.1 hv
   exact qg (Hf (m := 26) (fun v hv => qg (hk v hv) (by decide)) ht _ _ _) (Nat.le_trans (GA 26 (show c.1.toNat ≤ 6 by omega)) (by decide))
 have hl := HM c.2.1 c.1 t
 have h := F1 (fun p h => hp p h) hb (ivI c.2.1 c.1 t - c.1.toNat) (bvlL c.2.1 c.1 t).length
 have h : Bnd tF4 (bF4 95004) (homV c t) := Hk h (by
  have := Nat.mul_le_mul_right (13547 + 2 * 12 + 1) (show (bvlL c.2.1 c.1 t).length ≤ 7 by omega)
  omega)
 have d := FU h
 have e : 2 * (bF4 95004).mx + 2 = 190010 := by decide
 rw [e] at d
 exact ⟨AW d.1 (by decide), qg d.2 (by decide)⟩
structure StripE (c : qN) (w : V3) (t x : Rat) : Prop where
 iv : ¬ ivO c.2.1 t
 ev : EvC c t
 sb : Bnd ju bSfl (qB c w)
 l0 : 0 < (qB c w).2.2.2.2.length
 lr : ∀ i, i < (qB c w).2.2.2.2.length → (pRow (qB c w) i).length = (pRow (qB c w) 0).length
 iso : IsO (qC (qB c w)) t
 eu : EvC (isoV (qC (qB c w)) t).1 x
 ok : (sevV (qB c w) t x).2 = 0
 pt : (sevV (qB c w) t x).1 = addV (evV c t) (jc x w)
theorem sl16 {l : List Rat} {a : Nat} (h : Bnd (.sl .rat) (.s 16 (.n a)) l) (ha : a ≤ 4096) : Bnd (.sl .rat) (.s 64 (.n 4096)) l := ⟨by have := h.1; omega, fun v hv => qg (h.2 v hv) ha⟩
theorem p26 {p : Pole} {m : Nat} (h : Bnd j3 (qU m) p) (hm : m ≤ 262144) : Bnd (.pr tV3 .rat) (.p (bV3 262144) (.n 262144)) p := ⟨AW h.1 hm, qg h.2 hm⟩
theorem Vs {c : qN} {w : V3} {t x : Rat} (hc : Bnd qQ bCrv c) (hw : Bnd tV3 (bV3 5) w) (hk : chkC c = 0) (ht : Bnd .rat (.n 26) t) (iv : ¬ ivO c.2.1 t) (hx : Bnd .rat (.n 5) x) (h0 : 0 ≤ x) (h1 : x ≤ 1) : StripE c w t x := by
 have hk' := hk
 unfold chkC at hk
 split at hk
 ·rename_i h1; exact absurd hk h1
 rename_i g1
 split at hk
 ·cases hk
 rename_i g2
 have g1 : chkK c.2.1 c.1 = 0 := Decidable.not_not.1 g1
 have g2 : ((c.2.2.length : Nat) : Int) = (c.2.1.length : Int) - c.1 - 1 := Decidable.not_not.1 g2
 obtain ⟨d1, d6, k47, cl⟩ := FP g1
 have hiv := cl.iv iv
 have ll := cl.l
 have lp : 0 < c.2.2.length := by omega
 have tb : Bnd .rat (.n 4096) t := qg ht (by decide)
 have xb : Bnd .rat (.n 4096) x := qg hx (by decide)
 have lo := hiv.lo
 have evg : ∀ ps : List Pole, ps.length = c.2.2.length → (∀ p ∈ ps, Bnd j3 (qU 12) p) → EvC (c.1, c.2.1, ps) t := fun ps hl hp =>
  ⟨sl16 hc.2.1 (by decide), fun p h => p26 (hp p h) (by decide), tb, by show 0 ≤ c.1; omega, d6, ll, by show ps.length + c.1.toNat + 1 = c.2.1.length; omega, .inr lo⟩
 have pb12 : ∀ p ∈ c.2.2, Bnd j3 (qU 12) p := fun p h => NS (hc.2.2.2 p h)
 have sb : Bnd ju bSfl (qB c w) := by
  refine ⟨hc.1, (by decide : Int.natAbs 1 ≤ 6), hc.2.1, ⟨(by decide : 4 ≤ 16), E5.2⟩, ?_, fun r hr => ?_⟩
  ·show (rowN c w c.2.2.length).length ≤ 16
   rw [va]; exact hc.2.2.1
  ·have := IU (fun p h => hc.2.2.2 p h) hw _ (Nat.le_refl _) r hr
   exact ⟨Nat.le_trans this.1 (by decide), this.2⟩
 have sw := YF (w := w) lp
 have swb := KG sb
 have sl : (qC (qB c w)).2.2.2.2.length = 2 := by rw [sw]; rfl
 have r0 : rowC (qC (qB c w)) 0 = c := by rw [sw]; rfl
 have r1 : rowC (qC (qB c w)) 1 = (c.1, c.2.1, colN (qB c w) 1 c.2.2.length) := by rw [sw]; rfl
 have c1b : ∀ p ∈ colN (qB c w) 1 c.2.2.length, Bnd j3 (qU 12) p := HU sb 1 _
 have two : ∀ {P : Nat → Prop}, P 0 → P 1 → ∀ i, i < (qC (qB c w)).2.2.2.2.length → P i := fun p0 p1 i hi => by
  rw [sl] at hi
  match i, hi with
  | 0, _ => exact p0
  | 1, _ => exact p1
 have ev0 : EvC c t := evg c.2.2 rfl pb12
 have ev1 := evg (colN (qB c w) 1 c.2.2.length) (vH _ _ _) c1b
 have b0 : Bnd j3 (qU 200000) (ja (homV c t)) := K5 (fun v h => hc.2.1.2 v h) pb12 ht d6
 have b1 : Bnd j3 (qU 200000) (ja (homV (c.1, c.2.1, colN (qB c w) 1 c.2.2.length) t)) := K5 (fun v h => hc.2.1.2 v h) c1b ht d6
 have hW := TC hk' iv
 have mv : homV (c.1, c.2.1, colN (qB c w) 1 c.2.2.length) t = ((homV c t).1 + (homV c t).2.2.2 * w.1, (homV c t).2.1 + (homV c t).2.2.2 * w.2.1, (homV c t).2.2.1 + (homV c t).2.2.2 * w.2.2, (homV c t).2.2.2) := by
  have hl := FN (d := c.1) iv
  have hi := hiv.hi
  exact Id _ (by show ivI c.2.1 c.1 t - c.1.toNat + (bvlL c.2.1 c.1 t).length ≤ c.2.2.length; rw [hl]; omega) fun i hi => YE hi
 have dm : ja (homV (c.1, c.2.1, colN (qB c w) 1 c.2.2.length) t) = (addV (ja (homV c t)).1 w, (homV c t).2.2.2) := by rw [mv]; exact MG hW
 have ivs : ¬ ivE (qC (qB c w)).2.2.2.1 t ≠ 0 := by
  rw [sw]; show ¬ ivE c.2.1 t ≠ 0; rw [← Hn iv]; decide
 have isoE : isoV (qC (qB c w)) t = ((1, K4, [(evV c t, (homV c t).2.2.2), (addV (evV c t) w, (homV c t).2.2.2)]), 0) := by
  have e : isoP (qC (qB c w)) t 2 = [ja (homV (rowC (qC (qB c w)) 0) t), ja (homV (rowC (qC (qB c w)) 1) t)] := rfl
  have ee : evV c t = (ja (homV c t)).1 := by unfold evV; rw [if_neg iv]
  unfold isoV
  rw [if_neg ivs, sl, e, r0, r1, dm, ee, sw]; rfl
 have bI : ∀ p ∈ isoP (qC (qB c w)) t 2, Bnd j3 (qU 200000) p := fun p hp => by
  have e : isoP (qC (qB c w)) t 2 = [ja (homV (rowC (qC (qB c w)) 0) t), ja (homV (rowC (qC (qB c w)) 1) t)] := rfl
  rw [e, r0, r1] at hp
  simp only [List.mem_cons, List.not_mem_nil, or_false] at hp
  rcases hp with rfl | rfl
  ·exact b0
  ·exact b1
 have iso : IsO (qC (qB c w)) t := ⟨swb, tb, by rw [sw]; show 0 ≤ c.1; omega, by rw [sw]; show c.1.toNat + 2 ≤ c.2.1.length; omega, two (by rw [r0]; exact ev0) (by rw [r1]; exact ev1), two (by rw [r0]; exact b0) (by rw [r1]; exact b1)⟩
 have eu : EvC (isoV (qC (qB c w)) t).1 x := by
  have pbb : ∀ p ∈ [(evV c t, (homV c t).2.2.2), (addV (evV c t) w, (homV c t).2.2.2)], Bnd j3 (qU 200000) p := by
   have e : isoP (qC (qB c w)) t 2 = [ja (homV (rowC (qC (qB c w)) 0) t), ja (homV (rowC (qC (qB c w)) 1) t)] := rfl
   have ee : evV c t = (ja (homV c t)).1 := by unfold evV; rw [if_neg iv]
   rw [e, r0, r1, dm] at bI
   rw [ee]; exact bI
  rw [isoE]
  refine ⟨⟨(by decide : 4 ≤ 64), fun v hv => qg (E5.2 v hv) (by decide)⟩, fun p h => p26 (pbb p h) (by decide), xb, by show (0 : Int) ≤ 1; decide, by show (1 : Int) ≤ 6; decide, by show 2 * (1 : Int).toNat + 2 ≤ 4; decide, rfl, .inr (by show (1 : Int).toNat ≤ ivI K4 1 x; rw [k4_i h0 h1]; decide)⟩
 refine ⟨iv, ev0, sb, by show 0 < (rowN c w _).length; rw [va]; exact lp, fun i hi => Rh hi, iso, eu, ?_, ?_⟩
 ·unfold sevV
  rw [isoE, if_neg (show ¬ (0 : Int) ≠ 0 by decide)]
  exact (Hn (Lm h0 h1)).symm
 ·unfold sevV
  rw [isoE, if_neg (show ¬ (0 : Int) ≠ 0 by decide)]
  exact U6 hW h0 h1
theorem OM {k : List Rat} (hs : k.getD 0 0 ≤ k.getD (k.length - 1) 0) (n : Int) : ¬ ivO k (qZ (k.getD 0 0, k.getD (k.length - 1) 0) n) := by
 have p := Ed n
 unfold ivO qZ
 simp only []
 generalize jt n = u at *
 generalize k.getD 0 0 = a at *
 generalize k.getD (k.length - 1) 0 = b at *
 have m1 : 0 ≤ u * (b - a) := Rat.mul_nonneg p.1 (by grind)
 have m2 : 0 ≤ (1 - u) * (b - a) := Rat.mul_nonneg (by grind) (by grind)
 intro h
 rcases h with h | h
 ·rw [wO] at h; grind
 ·have : a + u * (b - a) ≤ b := by grind
  have := Mu.2 this; omega
theorem SO {c : qN} (hk : chkC c = 0) : 0 < c.2.1.length ∧ c.2.1.getD 0 0 ≤ c.2.1.getD (c.2.1.length - 1) 0 := by
 unfold chkC at hk
 split at hk
 ·rename_i h1; exact absurd hk h1
 rename_i g1
 obtain ⟨d1, d6, k47, cl⟩ := FP (Decidable.not_not.1 g1)
 have := cl.l
 exact ⟨by omega, cl.s 0 _ (by omega) (by omega)⟩
theorem Np {d inner : Int} (s : Dice) (hd : 1 ≤ d) : 1 ≤ (jl d inner s).length := by
 unfold jl; rw [List.length_append, List.length_replicate]; omega
theorem wi {c : qN} (h : Bnd qQ bCrv c) : Bnd qQ bCrv (c.1, c.2.1.drop 1, c.2.2) :=
 ⟨h.1, ⟨by have := h.2.1.1; show (c.2.1.drop 1).length ≤ 16; rw [List.length_drop]; omega, fun v hv => h.2.1.2 v (List.mem_of_mem_drop hv)⟩, h.2.2⟩
theorem Gl {c : qN} {w : V3} (h : (qh c w).2 = 0) : chkC c = 0 ∧ (qh c w).1 = qB c w := by
 unfold qh at h ⊢
 split at h
 ·rename_i g; exact absurd h g
 ·rename_i g
  split at h
  ·cases h
  ·rename_i g2; rw [if_neg g, if_neg g2]; exact ⟨Decidable.not_not.1 g, rfl⟩
theorem KE {c : qN} {w : V3} {u v : Int} (hc : Bnd qQ bCrv c) (hw : Bnd tV3 (bV3 5) w) (h : (qh c w).2 = 0) : 0 < c.2.1.length ∧ StripE c w (qZ (c.2.1.getD 0 0, c.2.1.getD (c.2.1.length - 1) 0) u) (jt v) := by
 have hk := (Gl h).1
 have hd := SO hk
 have g : ∀ i, Bnd .rat (.n 6) (c.2.1.getD i 0) := fun i => v8 (fun v hv => hc.2.1.2 v hv) i
 have hb : Bnd (.pr .rat .rat) (.p (.n 6) (.n 6)) (c.2.1.getD 0 0, c.2.1.getD (c.2.1.length - 1) 0) := ⟨g 0, g _⟩
 exact ⟨hd.1, Vs hc hw hk (H4 hb u) (OM hd.2 u) (Gd v) (Ed v).1 (Ed v).2⟩
end
abbrev Nv : FI := ⟨6, [(.sl (.int .i64)), (.int .i64), (.int .i64)], [(.s 9223372036854775807 (.n 9223372036854775808)), (.n 9223372036854775808), (.n 9223372036854775808)], fun _ => [], fun b z => .c (.one (.vl (.bool true)))⟩
theorem lstrips_k : Nv.OK Tryz.prog := mkF hmix 97 Tryz.func6 rfl rfl (by decide) [(7, .c U3), (8, .c U7), (9, .o Ta), (11, .b I0), (16, .c Cq), (20, .c Ka), (21, .c JY), (26, .c KJ), (35, .b Pt), (36, .b SX), (37, .c Pg), (38, .c QS), (39, .c Vm), (40, .c Nj), (41, .c Nc), (42, .c Re), (43, .c Db)] (fun _ => rfl) (fun _ => rfl) (fun _ _ => rfl) (fun (l : List Int) (u : Int) (v : Int) b hx hp => zO rfl) (fun (l : List Int) (u : Int) (v : Int) hx hp => by
 have hl0 : l.length ≤ 9223372036854775807 := hx.1.1
 have he0 : ∀ u ∈ l, Bnd (.int .i64) (.n 9223372036854775808) u := hx.1.2
 have hx1 : Int.natAbs u ≤ 9223372036854775808 := hx.2.1
 have hx2 : Int.natAbs v ≤ 9223372036854775808 := hx.2.2
 exact ⟨.cond (.nil) (.pre 3 (.bd 0 (.s 1048576 (.n 9223372036854775808))) ((fun (C0 : Int × List Rat × List ((Rat × Rat × Rat) × Rat)) => (fun (W : Rat × Rat × Rat) => .cond (.cond (.dead) (.cond (.cond (.dead) (.cond (.dead) (.cond (.cond (.nil) (.dead)) (.dead)))) (.cond (.nil) (.dead)))) (.cond (.dead) (.cond (.cond (.dead) (.cond (.dead) (.cond (.cond (.nil) (.dead)) (.dead)))) (.cond (.nil) (.dead))))) (vw (zJ 2 1 false (l, 0)))) (wP 2 1 false (l, 0)))), kcast (by kernel_rfl) (And.intro (fun (h1 : (!(decide (l.length ≤ 500))) = true) => trivial) (fun (h2 : ¬ ((!(decide (l.length ≤ 500))) = true)) => have hl5 := (nd' h2 : l.length ≤ 500); I (⟨by omega, he0⟩ : Bnd (.sl (.int .i64)) (.s 1048576 (.n 9223372036854775808)) l) (I (by omega : (1 : Int) ≤ 2) (I (by omega : 2 ≤ (5 : Int)) (I (by omega : (0 : Int) ≤ 1) (I (by omega : 1 ≤ (4 : Int)) ((fun (C0 : Int × List Rat × List ((Rat × Rat × Rat) × Rat)) (hC1 : C0 = wP 2 1 false (l, 0)) => (fun (W : Rat × Rat × Rat) (hW1 : W = vw (zJ 2 1 false (l, 0))) => have hC0 := (show Bnd qQ bCrv C0 from by rw [hC1]; exact HW _ _ (by omega) (by omega) (by omega) (by omega)); have hW := (show Bnd tV3 (bV3 5) W from by rw [hW1]; exact Ee _); have hCl := (show 1 ≤ C0.2.1.length from by rw [hC1]; exact Np _ (by have := vv (l, 0) (m := 2) (by omega); unfold cuD; omega)); I (by omega : (0 : Int) < 6) (And.intro (fun (h3 : decide (q8 (jY (zJ 2 1 false (l, 0))) 6 = 6 - 1) = true) => I (by omega : 1 ≤ C0.2.1.length) (I ((by first | exact hC0 | exact wi hC0 | exact hW : Bnd qQ bCrv (C0.1, C0.2.1.drop 1, C0.2.2)) : Bnd qQ bCrv (C0.1, C0.2.1.drop 1, C0.2.2)) (I ((by first | exact hC0 | exact wi hC0 | exact hW : Bnd tV3 (bV3 5) W) : Bnd tV3 (bV3 5) W) (I ((by first | exact hC0 | exact wi hC0 | exact hW : Bnd qQ bCrv (C0.1, C0.2.1.drop 1, C0.2.2)) : Bnd qQ bCrv (C0.1, C0.2.1.drop 1, C0.2.2)) (I ((by first | exact hC0 | exact wi hC0 | exact hW : Bnd tV3 (bV3 5) W) : Bnd tV3 (bV3 5) W) (And.intro (fun (h4 : (qh (C0.1, C0.2.1.drop 1, C0.2.2) W).2 ≠ (qh (C0.1, C0.2.1.drop 1, C0.2.2) W).2) => (h4 rfl : False)) (fun (h5 : ¬ ((qh (C0.1, C0.2.1.drop 1, C0.2.2) W).2 ≠ (qh (C0.1, C0.2.1.drop 1, C0.2.2) W).2)) => And.intro (fun (h6 : (qh (C0.1, C0.2.1.drop 1, C0.2.2) W).2 = 0) => I (Eq.refl ((qh (C0.1, C0.2.1.drop 1, C0.2.2) W).1)) (And.intro (fun (h7 : (!true) = true) => (absurd h7 (by decide) : False)) (fun (h8 : ¬ ((!true) = true)) => And.intro (fun (h9 : (qh (C0.1, C0.2.1.drop 1, C0.2.2) W).2 ≠ 0) => (h9 h6 : False)) (fun (h10 : ¬ ((qh (C0.1, C0.2.1.drop 1, C0.2.2) W).2 ≠ 0)) => have hR := Gl h6; have hS := (KE (wi hC0) hW h6 : 0 < (C0.1, C0.2.1.drop 1, C0.2.2).2.1.length ∧ StripE (C0.1, C0.2.1.drop 1, C0.2.2) W (qZ ((C0.1, C0.2.1.drop 1, C0.2.2).2.1.getD 0 0, (C0.1, C0.2.1.drop 1, C0.2.2).2.1.getD ((C0.1, C0.2.1.drop 1, C0.2.2).2.1.length - 1) 0) u) (jt v)); I (hS.1 : 0 < (C0.1, C0.2.1.drop 1, C0.2.2).2.1.length) (I (hS.2.ev : EvC (C0.1, C0.2.1.drop 1, C0.2.2) (qZ ((C0.1, C0.2.1.drop 1, C0.2.2).2.1.getD 0 0, (C0.1, C0.2.1.drop 1, C0.2.2).2.1.getD ((C0.1, C0.2.1.drop 1, C0.2.2).2.1.length - 1) 0) u)) (I (by rw [hR.2]; exact hS.2.sb : Bnd ju bSfl ((qh (C0.1, C0.2.1.drop 1, C0.2.2) W).1)) (I (by rw [hR.2]; exact hS.2.l0 : 0 < ((qh (C0.1, C0.2.1.drop 1, C0.2.2) W).1).2.2.2.2.length) (I (by rw [hR.2]; exact hS.2.lr : ∀ i, i < ((qh (C0.1, C0.2.1.drop 1, C0.2.2) W).1).2.2.2.2.length → (pRow ((qh (C0.1, C0.2.1.drop 1, C0.2.2) W).1) i).length = (pRow ((qh (C0.1, C0.2.1.drop 1, C0.2.2) W).1) 0).length) (I (by rw [hR.2]; exact hS.2.iso : IsO (qC ((qh (C0.1, C0.2.1.drop 1, C0.2.2) W).1)) (qZ ((C0.1, C0.2.1.drop 1, C0.2.2).2.1.getD 0 0, (C0.1, C0.2.1.drop 1, C0.2.2).2.1.getD ((C0.1, C0.2.1.drop 1, C0.2.2).2.1.length - 1) 0) u)) (I (by rw [hR.2]; exact hS.2.eu : EvC (isoV (qC ((qh (C0.1, C0.2.1.drop 1, C0.2.2) W).1)) (qZ ((C0.1, C0.2.1.drop 1, C0.2.2).2.1.getD 0 0, (C0.1, C0.2.1.drop 1, C0.2.2).2.1.getD ((C0.1, C0.2.1.drop 1, C0.2.2).2.1.length - 1) 0) u)).1 (jt v)) (And.intro (fun (h11 : (sevV ((qh (C0.1, C0.2.1.drop 1, C0.2.2) W).1) (qZ ((C0.1, C0.2.1.drop 1, C0.2.2).2.1.getD 0 0, (C0.1, C0.2.1.drop 1, C0.2.2).2.1.getD ((C0.1, C0.2.1.drop 1, C0.2.2).2.1.length - 1) 0) u) (jt v)).2 = 0) => And.intro (fun (h12 : decide (((sevV ((qh (C0.1, C0.2.1.drop 1, C0.2.2) W).1) (qZ ((C0.1, C0.2.1.drop 1, C0.2.2).2.1.getD 0 0, (C0.1, C0.2.1.drop 1, C0.2.2).2.1.getD ((C0.1, C0.2.1.drop 1, C0.2.2).2.1.length - 1) 0) u) (jt v)).1) = (addV (evV (C0.1, C0.2.1.drop 1, C0.2.2) (qZ ((C0.1, C0.2.1.drop 1, C0.2.2).2.1.getD 0 0, (C0.1, C0.2.1.drop 1, C0.2.2).2.1.getD ((C0.1, C0.2.1.drop 1, C0.2.2).2.1.length - 1) 0) u)) (jc (jt v) W))) = true) => trivial) (fun (h13 : ¬ (decide (((sevV ((qh (C0.1, C0.2.1.drop 1, C0.2.2) W).1) (qZ ((C0.1, C0.2.1.drop 1, C0.2.2).2.1.getD 0 0, (C0.1, C0.2.1.drop 1, C0.2.2).2.1.getD ((C0.1, C0.2.1.drop 1, C0.2.2).2.1.length - 1) 0) u) (jt v)).1) = (addV (evV (C0.1, C0.2.1.drop 1, C0.2.2) (qZ ((C0.1, C0.2.1.drop 1, C0.2.2).2.1.getD 0 0, (C0.1, C0.2.1.drop 1, C0.2.2).2.1.getD ((C0.1, C0.2.1.drop 1, C0.2.2).2.1.length - 1) 0) u)) (jc (jt v) W))) = true)) => (h13 (decide_eq_true (by rw [hR.2]; exact hS.2.pt)) : False))) (fun (h14 : ¬ ((sevV ((qh (C0.1, C0.2.1.drop 1, C0.2.2) W).1) (qZ ((C0.1, C0.2.1.drop 1, C0.2.2).2.1.getD 0 0, (C0.1, C0.2.1.drop 1, C0.2.2).2.1.getD ((C0.1, C0.2.1.drop 1, C0.2.2).2.1.length - 1) 0) u) (jt v)).2 = 0)) => (h14 (by rw [hR.2]; exact hS.2.ok) : False))))))))))))) (fun (h15 : ¬ ((qh (C0.1, C0.2.1.drop 1, C0.2.2) W).2 = 0)) => And.intro (fun (h16 : (qh (C0.1, C0.2.1.drop 1, C0.2.2) W).2 ≠ 0) => trivial) (fun (h17 : ¬ ((qh (C0.1, C0.2.1.drop 1, C0.2.2) W).2 ≠ 0)) => (h17 h15 : False)))))))))) (fun (h18 : ¬ (decide (q8 (jY (zJ 2 1 false (l, 0))) 6 = 6 - 1) = true)) => I ((by first | exact hC0 | exact wi hC0 | exact hW : Bnd qQ bCrv C0) : Bnd qQ bCrv C0) (I ((by first | exact hC0 | exact wi hC0 | exact hW : Bnd tV3 (bV3 5) W) : Bnd tV3 (bV3 5) W) (I ((by first | exact hC0 | exact wi hC0 | exact hW : Bnd qQ bCrv C0) : Bnd qQ bCrv C0) (I ((by first | exact hC0 | exact wi hC0 | exact hW : Bnd tV3 (bV3 5) W) : Bnd tV3 (bV3 5) W) (And.intro (fun (h19 : (qh C0 W).2 ≠ (qh C0 W).2) => (h19 rfl : False)) (fun (h20 : ¬ ((qh C0 W).2 ≠ (qh C0 W).2)) => And.intro (fun (h21 : (qh C0 W).2 = 0) => I (Eq.refl ((qh C0 W).1)) (And.intro (fun (h22 : (!true) = true) => (absurd h22 (by decide) : False)) (fun (h23 : ¬ ((!true) = true)) => And.intro (fun (h24 : (qh C0 W).2 ≠ 0) => (h24 h21 : False)) (fun (h25 : ¬ ((qh C0 W).2 ≠ 0)) => have hR := Gl h21; have hS := (KE hC0 hW h21 : 0 < C0.2.1.length ∧ StripE C0 W (qZ (C0.2.1.getD 0 0, C0.2.1.getD (C0.2.1.length - 1) 0) u) (jt v)); I (hS.1 : 0 < C0.2.1.length) (I (hS.2.ev : EvC C0 (qZ (C0.2.1.getD 0 0, C0.2.1.getD (C0.2.1.length - 1) 0) u)) (I (by rw [hR.2]; exact hS.2.sb : Bnd ju bSfl ((qh C0 W).1)) (I (by rw [hR.2]; exact hS.2.l0 : 0 < ((qh C0 W).1).2.2.2.2.length) (I (by rw [hR.2]; exact hS.2.lr : ∀ i, i < ((qh C0 W).1).2.2.2.2.length → (pRow ((qh C0 W).1) i).length = (pRow ((qh C0 W).1) 0).length) (I (by rw [hR.2]; exact hS.2.iso : IsO (qC ((qh C0 W).1)) (qZ (C0.2.1.getD 0 0, C0.2.1.getD (C0.2.1.length - 1) 0) u)) (I (by rw [hR.2]; exact hS.2.eu : EvC (isoV (qC ((qh C0 W).1)) (qZ (C0.2.1.getD 0 0, C0.2.1.getD (C0.2.1.length - 1) 0) u)).1 (jt v)) (And.intro (fun (h26 : (sevV ((qh C0 W).1) (qZ (C0.2.1.getD 0 0, C0.2.1.getD (C0.2.1.length - 1) 0) u) (jt v)).2 = 0) => And.intro (fun (h27 : decide (((sevV ((qh C0 W).1) (qZ (C0.2.1.getD 0 0, C0.2.1.getD (C0.2.1.length - 1) 0) u) (jt v)).1) = (addV (evV C0 (qZ (C0.2.1.getD 0 0, C0.2.1.getD (C0.2.1.length - 1) 0) u)) (jc (jt v) W))) = true) => trivial) (fun (h28 : ¬ (decide (((sevV ((qh C0 W).1) (qZ (C0.2.1.getD 0 0, C0.2.1.getD (C0.2.1.length - 1) 0) u) (jt v)).1) = (addV (evV C0 (qZ (C0.2.1.getD 0 0, C0.2.1.getD (C0.2.1.length - 1) 0) u)) (jc (jt v) W))) = true)) => (h28 (decide_eq_true (by rw [hR.2]; exact hS.2.pt)) : False))) (fun (h29 : ¬ ((sevV ((qh C0 W).1) (qZ (C0.2.1.getD 0 0, C0.2.1.getD (C0.2.1.length - 1) 0) u) (jt v)).2 = 0)) => (h29 (by rw [hR.2]; exact hS.2.ok) : False))))))))))))) (fun (h30 : ¬ ((qh C0 W).2 = 0)) => And.intro (fun (h31 : (qh C0 W).2 ≠ 0) => trivial) (fun (h32 : ¬ ((qh C0 W).2 ≠ 0)) => (h32 h30 : False))))))))))) (vw (zJ 2 1 false (l, 0))) rfl) (wP 2 1 false (l, 0)) rfl)))))))⟩)
end Go.Proofs.YtcjgaaibflcdiaaGreat.Sx
