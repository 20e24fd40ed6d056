/-
Own laws and walks for the claim, part 6: WMc1, WEx4, WTe4, WMc2, WPt, WTf, WKb4, WMd1, WTg, WTg2, WTg3, WTg4, WTg5, WEx5, WMe1, WMe2, WMd2, WMe3. No condition.
-/
import Derived.Test.YtchgnllhbcadpaaGreatE5
namespace Go.Proofs.YtchgnllhbcadpaaGreat.Sx
open Go Go.Proofs
set_option linter.unusedVariables false
set_option linter.unusedSimpArgs false
set_option maxRecDepth 20000
set_option maxHeartbeats 4000000
abbrev OR : FO := ⟨197, [(.sl (.pr .rat (.pr .rat .rat)))], [(.s 255 (.p (.n 536870904) (.p (.n 536870904) (.n 536870904))))], fun _ => [], fun k b z => (fun (l : List (Rat × Rat × Rat)) => .c (.one (.gs k (l.length) 9 ((b0 b).len)))) z, fun b z => (fun (l : List (Rat × Rat × Rat)) => .gro (.pr .rat (.pr .rat .rat)) ((b0 b).e) (l)) z⟩
theorem OS : OR.OK Tryz.prog := mkO hmix 8 7 Tryz.func197 rfl rfl (by decide) [] (fun _ => rfl) (fun _ _ _ => rfl) (fun _ _ => rfl) (fun _ _ _ => ⟨rfl, rfl⟩) (fun (l : List (Rat × Rat × Rat)) k b hx hp => ⟨qe (Bnds.h1 hx).sl.1 rfl, (Bnds.h1 hx).sl.2⟩) (fun (l : List (Rat × Rat × Rat)) hx hp => by
 exact bodyO.g (.cond (.nil) (.h 3 0 (.mk (.gro (.pr .rat (.pr .rat .rat)) (.p (.n 536870904) (.p (.n 536870904) (.n 536870904))))) (.nil))) (kcast (by kernel_rfl) (And.intro (fun (h1 : l = []) => And.intro (h1.symm : ([] : List (Rat × Rat × Rat)) = l) ((by rw [h1]; rfl : 0 = l.length))) (I (rfl : 0 = ([] : List (Rat × Rat × Rat)).length) (And.intro (rfl : ([] : List (Rat × Rat × Rat)) ++ l = l) ((Nat.zero_add _ : 0 + l.length = l.length)))))))
abbrev OQ : CtrO Tryz.prog := FO.c OS
abbrev Rr : FV := ⟨284, true, (.pr .rat (.pr .rat .rat)), (.p (.n 536870904) (.p (.n 536870904) (.n 536870904))), 255, [(.nat .i64), (.nat .i64), (.fn 199)], [(.n 255), (.n 255), .u], fun l lo n cap z => (fun (a : Nat) (b_ : Nat) (u : Unit) => [a = 0, b_ = l.length, n = l.length]) z.1 z.2.1 z.2.2, fun k b l lo n cap z => v9, fun l lo n cap z => jW z3 cpV l⟩
theorem Rs : Rr.OK Tryz.prog := mkSl hmix 53 Tryz.func284 rfl rfl (by decide) [(199, .c Na)] (fun _ => rfl) (fun _ _ _ _ _ => rfl) (fun _ _ _ _ _ _ _ => rfl) (fun _ _ _ _ _ _ => rfl) (fun (l : List (Rat × Rat × Rat)) (lo n cap : Nat) (a : Nat) (b_ : Nat) (u : Unit) k b hx hs hn (hm : n ≤ 255) hp => ⟨zh, G3 hs⟩) (fun (l : List (Rat × Rat × Rat)) (lo n cap : Nat) (a : Nat) (b_ : Nat) (u : Unit) hs hx hn (hm : n ≤ 255) hp => by
 have hx0 : a ≤ 255 := hx.1
 have hx1 : b_ ≤ 255 := hx.2.1
 have hp0 : a = 0 := hp _ (List.mem_cons_self)
 have hp1 : b_ = l.length := hp _ (List.mem_cons_of_mem _ (List.mem_cons_self))
 have hp2 : n = l.length := hp _ (List.mem_cons_of_mem _ (List.mem_cons_of_mem _ (List.mem_cons_self)))
 exact ⟨.loop [.s 8 (.nat .i64) (.n 256), .bk 100000 (.pr .rat (.pr .rat .rat)) (.p (.n 536870904) (.p (.n 536870904) (.n 536870904)))] (fun ((i, m) : Nat × List (Rat × Rat × Rat)) => (1 ≤ l.length → SoO z3 cpV l m i) ∧ 1 ≤ i ∧ (¬ 1 ≤ l.length → m = l)) (fun ((i, m) : Nat × List (Rat × Rat × Rat)) => l.length - i) (fun ((i, m) : Nat × List (Rat × Rat × Rat)) => .cond (.loop [.s 9 (.nat .i64) (.n 256), .bk 100000 (.pr .rat (.pr .rat .rat)) (.p (.n 536870904) (.p (.n 536870904) (.n 536870904)))] (fun ((j, m2) : Nat × List (Rat × Rat × Rat)) => SoI z3 cpV l m2 i j) (fun ((j, m2) : Nat × List (Rat × Rat × Rat)) => j) (fun ((j, m2) : Nat × List (Rat × Rat × Rat)) => .cond (.h 4 11 (.i .sub) (.cond (.h 6 4 (.i .sub) (.h 6 7 (.i .sub) (.h 5 1 (.i .sub) (.nil)))) (.nil))) (.nil))) (.nil)), kcast (by kernel_rfl) (I (⟨fun h => by rw [hp0]; exact SoO.start h, by omega, fun _ => rfl⟩ : (1 ≤ l.length → SoO z3 cpV l l (a + 1)) ∧ 1 ≤ (a + 1) ∧ (¬ 1 ≤ l.length → l = l)) (fun (i : Nat) (m : List (Rat × Rat × Rat)) (hb1 : HB [.s 8 (.nat .i64) (.n 256), .bk 100000 (.pr .rat (.pr .rat .rat)) (.p (.n 536870904) (.p (.n 536870904) (.n 536870904)))] (i, m)) (hI : (1 ≤ l.length → SoO z3 cpV l m i) ∧ 1 ≤ i ∧ (¬ 1 ≤ l.length → m = l)) => have hv10 := (show i ≤ 256 from hb1.1); have hi1 := hI.2.1; And.intro (fun (h2 : i < b_) => I ((hI.1 (by omega)).inner (by omega) : SoI z3 cpV l m i i) (fun (j : Nat) (m2 : List (Rat × Rat × Rat)) (hb3 : HB [.s 9 (.nat .i64) (.n 256), .bk 100000 (.pr .rat (.pr .rat .rat)) (.p (.n 536870904) (.p (.n 536870904) (.n 536870904)))] (j, m2)) (hJ : SoI z3 cpV l m2 i j) => have hv8 := (show j ≤ 256 from hb3.1); have hJj := hJ.hj; have hJl := hJ.len; have hJi := hJ.hi; And.intro (fun (h4 : a < j) => I (by omega : j < n) (I (by omega : j < m2.length) (I (by omega : 1 ≤ j) (I (by omega : j - 1 < n) (I (by omega : j - 1 < m2.length) (And.intro (fun (h5 : cpV (m2.getD j (0, (0, 0))) (m2.getD (j - 1) (0, (0, 0))) < 0) => I (by omega : 1 ≤ j) (I (by omega : 1 ≤ j) (I (by omega : j - 1 < n) (I (by omega : j - 1 < m2.length) (I (by omega : j < n) (I (by omega : j < m2.length) (I (by omega : j < n) (I (by omega : j < m2.length) (I (by omega : j - 1 < n) (I (by simp only [List.length_set]; omega : j - 1 < (m2.set j (m2.getD (j - 1) (0, (0, 0)))).length) (I (by omega : 1 ≤ j) (And.intro (hJ.step (by omega) h5 : SoI z3 cpV l ((m2.set j (m2.getD (j - 1) (0, (0, 0)))).set (j - 1) (m2.getD j (0, (0, 0)))) i (j - 1)) (by omega : (j - 1) < j))))))))))))) (fun (h6 : ¬ (cpV (m2.getD j (0, (0, 0))) (m2.getD (j - 1) (0, (0, 0))) < 0)) => I (show (i + 1) ≤ 256 by omega : Bnd (.nat .i64) (.n 256) (i + 1)) (And.intro (⟨fun _ => hJ.stop (.inr h6), by omega, fun h => absurd h (by omega)⟩ : (1 ≤ l.length → SoO z3 cpV l m2 (i + 1)) ∧ 1 ≤ (i + 1) ∧ (¬ 1 ≤ l.length → m2 = l)) (by omega : l.length - (i + 1) < l.length - i))))))))) (fun (h7 : ¬ (a < j)) => I (show (i + 1) ≤ 256 by omega : Bnd (.nat .i64) (.n 256) (i + 1)) (And.intro (⟨fun _ => hJ.stop (.inl (by omega)), by omega, fun h => absurd h (by omega)⟩ : (1 ≤ l.length → SoO z3 cpV l m2 (i + 1)) ∧ 1 ≤ (i + 1) ∧ (¬ 1 ≤ l.length → m2 = l)) (by omega : l.length - (i + 1) < l.length - i))))) (fun (h9 : ¬ (i < b_)) => And.intro (by
  by_cases h0 : 1 ≤ l.length
  · exact (hI.1 h0).fin (by omega)
  · rw [hI.2.2 h0]; exact Ph h0 : m = jW z3 cpV l) (trivial))))⟩)
abbrev Rq : CtrS Tryz.prog := FV.c Rs
abbrev Ov : FI := ⟨292, [(.nat .u64)], [(.n 255)], fun _ => [], fun b z => (fun (x : Nat) => .c (.one (.dt (.nat .i64) (.n (Nat.log2 (b0 b).nb + 1)) (bl x)))) z⟩
theorem Ow : Ov.OK Tryz.prog := mkF hmix 25 Tryz.func292 rfl rfl (by decide) [] (fun _ => rfl) (fun _ => rfl) (fun _ _ => rfl) (fun (x : Nat) b hx hp => qe (Hc (Bnds.h1 hx).nat) rfl) (fun (x : Nat) hx hp => by
 have hx0 : x ≤ 255 := hx
 have hx9 : x < 256 := Nat.lt_succ_of_le hx
 exact ⟨.cond (.dead) (.cond (.dead) (.cond (.dead) (.h 10 3 (.any [.c (.one (.vl (.string tab8))), .c (.one (.dt (.nat .u8) (.n 255) x))] (.c (.one (.dt (.nat .u8) (.n 8) (bl x)))) (qe (bl_8 hx9) rfl) (Op.index 9 (.const (.string tab8)) (.tmp 21)) (fun _ => B3 (j := x) (by kernel_rfl) rfl hx9 (by kernel_rfl))) (.nil)))), kcast (by kernel_rfl) (And.intro (fun (h1 : 4294967296 ≤ x) => (by omega : False)) (fun (h2 : ¬ (4294967296 ≤ x)) => And.intro (fun (h3 : 65536 ≤ x) => (by omega : False)) (fun (h4 : ¬ (65536 ≤ x)) => And.intro (fun (h5 : 256 ≤ x) => (by omega : False)) (fun (h6 : ¬ (256 ≤ x)) => I (rfl : ([.c (.one (.vl (.string tab8))), .c (.one (.dt (.nat .u8) (.n 255) x))] : List WV) = [.c (.one (.vl (.string tab8))), .c (.one (.dt (.nat .u8) (.n 255) x))]) (I (rfl : (Op.index 9 (.const (.string tab8)) (.tmp 21) : Op) = Op.index 9 (.const (.string tab8)) (.tmp 21)) ((by omega : 0 + (bl x) = bl x)))))))⟩)
abbrev Ou : Ctr Tryz.prog := FI.c Ow
abbrev UI : FI := ⟨258, [(.nat .u64)], [(.n 255)], fun _ => [], fun b z => (fun (x : Nat) => .c (.one (.dt (.nat .i64) (.n (Nat.log2 (b0 b).nb + 1)) (bl x)))) z⟩
theorem UJ : UI.OK Tryz.prog := mkF hmix 8 Tryz.func258 rfl rfl (by decide) [(292, .c Ou)] (fun _ => rfl) (fun _ => rfl) (fun _ _ => rfl) (fun (x : Nat) b hx hp => qe (Hc (Bnds.h1 hx).nat) rfl) (fun (x : Nat) hx hp => by
 exact ⟨.nil, kcast (by kernel_rfl) ((Eq.refl (bl x)))⟩)
abbrev UH : Ctr Tryz.prog := FI.c UJ
abbrev Sb : FV := ⟨257, true, (.pr .rat (.pr .rat .rat)), (.p (.n 536870904) (.p (.n 536870904) (.n 536870904))), 255, [(.nat .i64), (.nat .i64), (.nat .i64), (.fn 199)], [(.n 255), (.n 255), (.n 64), .u], fun l lo n cap z => (fun (a : Nat) (b_ : Nat) (w : Nat) (u : Unit) => [a = 0, b_ = l.length, l.length ≤ 12, n = l.length]) z.1 z.2.1 z.2.2.1 z.2.2.2, fun k b l lo n cap z => v9, fun l lo n cap z => jW z3 cpV l⟩
theorem Sc : Sb.OK Tryz.prog := mkSl hmix 148 Tryz.func257 rfl rfl (by decide) [(284, .s Rq)] (fun _ => rfl) (fun _ _ _ _ _ => rfl) (fun _ _ _ _ _ _ _ => rfl) (fun _ _ _ _ _ _ => rfl) (fun (l : List (Rat × Rat × Rat)) (lo n cap : Nat) (a : Nat) (b_ : Nat) (w : Nat) (u : Unit) k b hx hs hn (hm : n ≤ 255) hp => ⟨zh, G3 hs⟩) (fun (l : List (Rat × Rat × Rat)) (lo n cap : Nat) (a : Nat) (b_ : Nat) (w : Nat) (u : Unit) hs hx hn (hm : n ≤ 255) hp => by
 have hx0 : a ≤ 255 := hx.1
 have hx1 : b_ ≤ 255 := hx.2.1
 have hx2 : w ≤ 64 := hx.2.2.1
 have hp0 : a = 0 := hp _ (List.mem_cons_self)
 have hp1 : b_ = l.length := hp _ (List.mem_cons_of_mem _ (List.mem_cons_self))
 have hp2 : l.length ≤ 12 := hp _ (List.mem_cons_of_mem _ (List.mem_cons_of_mem _ (List.mem_cons_self)))
 have hp3 : n = l.length := hp _ (List.mem_cons_of_mem _ (List.mem_cons_of_mem _ (List.mem_cons_of_mem _ (List.mem_cons_self))))
 exact ⟨.h 2 2 (.i .sub) (.cond (.nil) (.dead)), kcast (by kernel_rfl) (I (by omega : a ≤ b_) (And.intro (fun (h1 : b_ - a ≤ 12) => I (by omega : a = 0) (I (by omega : b_ = l.length) (I (by omega : n = l.length) (And.intro (Eq.refl (jW z3 cpV l)) (trivial))))) (fun (h2 : ¬ (b_ - a ≤ 12)) => (by omega : False))))⟩)
abbrev Sa : CtrS Tryz.prog := FV.c Sc
abbrev R3 : FV := ⟨198, true, (.pr .rat (.pr .rat .rat)), (.p (.n 536870904) (.p (.n 536870904) (.n 536870904))), 255, [(.fn 199)], [.u], fun l lo n cap z => [l.length ≤ 12, n = l.length], fun k b l lo n cap z => v9, fun l lo n cap z => jW z3 cpV l⟩
theorem R4 : R3.OK Tryz.prog := mkSl hmix 14 Tryz.func198 rfl rfl (by decide) [(257, .s Sa), (258, .c UH)] (fun _ => rfl) (fun _ _ _ _ _ => rfl) (fun _ _ _ _ _ _ _ => rfl) (fun _ _ _ _ _ _ => rfl) (fun (l : List (Rat × Rat × Rat)) (lo n cap : Nat) (u : Unit) k b hx hs hn (hm : n ≤ 255) hp => ⟨zh, G3 hs⟩) (fun (l : List (Rat × Rat × Rat)) (lo n cap : Nat) (u : Unit) hs hx hn (hm : n ≤ 255) hp => by
 have hp0 : l.length ≤ 12 := hp _ (List.mem_cons_self)
 have hp1 : n = l.length := hp _ (List.mem_cons_of_mem _ (List.mem_cons_self))
 exact ⟨.nil, kcast (by kernel_rfl) (I (Eq.refl 0) (I (hp1 : n = l.length) (I (hp0 : l.length ≤ 12) (I (hp1 : n = l.length) (And.intro (Eq.refl (jW z3 cpV l)) (trivial))))))⟩)
abbrev R0 : CtrS Tryz.prog := FV.c R4
abbrev KO : FV := ⟨200, true, (.pr .rat (.pr .rat .rat)), (.p (.n 536870904) (.p (.n 536870904) (.n 536870904))), 255, [(.fn 201)], [.u], fun l lo n cap z => [n = l.length], fun k b l lo n cap z => .c (.one (.gs k (unqD z3 eqV l).length 9 255)), fun l lo n cap z => unqF z3 eqV l⟩
theorem KP : KO.OK Tryz.prog := mkSl hmix 66 Tryz.func200 rfl rfl (by decide) [(201, .c SK)] (fun _ => rfl) (fun _ _ _ _ _ => rfl) (fun _ _ _ _ _ _ _ => rfl) (fun _ _ _ _ _ _ => rfl) (fun (l : List (Rat × Rat × Rat)) (lo n cap : Nat) (u : Unit) k b hx hs hn (hm : n ≤ 255) hp => ⟨qe (show (unqD z3 eqV l).length ≤ 255 from by have := Dt (d := z3) (e := eqV) (l := l); have h0 := hp _ List.mem_cons_self; omega) rfl, Td hs⟩) (fun (l : List (Rat × Rat × Rat)) (lo n cap : Nat) (u : Unit) hs hx hn (hm : n ≤ 255) hp => by
 have hp0 : n = l.length := hp _ (List.mem_cons_self)
 exact ⟨.cond (.nil) (.loop [.s 5 (.nat .i64) (.n 1048576), .bk 100000 (.pr .rat (.pr .rat .rat)) (.p (.n 536870904) (.p (.n 536870904) (.n 536870904)))] (fun ((f, m0) : Nat × List (Rat × Rat × Rat)) => m0 = l ∧ CmO z3 eqV m0 f) (fun ((f, m0) : Nat × List (Rat × Rat × Rat)) => n - f) (fun ((f, m0) : Nat × List (Rat × Rat × Rat)) => .cond (.h 6 7 (.i .sub) (.cond (.loop [.s 7 (.nat .i64) (.n 1048576), .s 5 (.nat .i64) (.n 1048576), .bk 100000 (.pr .rat (.pr .rat .rat)) (.p (.n 536870904) (.p (.n 536870904) (.n 536870904)))] (fun ((q, j, m) : Nat × Nat × List (Rat × Rat × Rat)) => CmI z3 eqV l m j (f + q) ∧ 1 ≤ q) (fun ((q, j, m) : Nat × Nat × List (Rat × Rat × Rat)) => n - f - q) (fun ((q, j, m) : Nat × Nat × List (Rat × Rat × Rat)) => .cond (.h 11 7 (.i .sub) (.nil)) (.nil))) (.nil))) (.nil))), kcast (by kernel_rfl) (And.intro (fun (h1 : n < 2) => And.intro (GD (F9 (by omega)) : l = unqF z3 eqV l) ((by rw [F9 (by omega)]; exact hp0 : n = (unqD z3 eqV l).length))) (fun (h2 : ¬ (n < 2)) => I (⟨rfl, CmO.start (by omega)⟩ : l = l ∧ CmO z3 eqV l 1) (fun (f : Nat) (m0 : List (Rat × Rat × Rat)) (hb3 : HB [.s 5 (.nat .i64) (.n 1048576), .bk 100000 (.pr .rat (.pr .rat .rat)) (.p (.n 536870904) (.p (.n 536870904) (.n 536870904)))] (f, m0)) (hI : m0 = l ∧ CmO z3 eqV m0 f) => have hv15 := (show f ≤ 1048576 from hb3.1); have hml := (show m0.length = n from by rw [hI.1]; exact hp0.symm); have hf1 := hI.2.h1; have hf2 := hI.2.hl; And.intro (fun (h4 : f < n) => I (by omega : f < n) (I (by omega : f < m0.length) (I (by omega : 1 ≤ f) (I (by omega : f - 1 < n) (I (by omega : f - 1 < m0.length) (And.intro (fun (h5 : decide ((m0.getD f (0, (0, 0))) = (m0.getD (f - 1) (0, (0, 0)))) = true) => I (by omega : f ≤ n) (I (by omega : n ≤ m0.length) (I (⟨by have h := CmI.start hI.2 (by omega) h5; have e := hI.1; subst e; exact h, Nat.le_refl 1⟩ : CmI z3 eqV l m0 f (f + 1) ∧ 1 ≤ 1) (fun (q : Nat) (j : Nat) (m : List (Rat × Rat × Rat)) (hb6 : HB [.s 7 (.nat .i64) (.n 1048576), .s 5 (.nat .i64) (.n 1048576), .bk 100000 (.pr .rat (.pr .rat .rat)) (.p (.n 536870904) (.p (.n 536870904) (.n 536870904)))] (q, j, m)) (hJ : CmI z3 eqV l m j (f + q) ∧ 1 ≤ q) => have hv11 := (show q ≤ 1048576 from hb6.1); have hv12 := (show j ≤ 1048576 from hb6.2.1); have hjl := hJ.1.hl; have hj1 := hJ.1.hk; have hj2 := hJ.1.hi; have hj3 := hJ.2; And.intro (fun (h7 : q < n - f) => I (by omega : q < n - f) (I (by omega : f + q < m.length) (I (by omega : 1 ≤ q) (I (by omega : q - 1 < n - f) (I (by omega : f + (q - 1) < m.length) (And.intro (fun (h8 : (!(decide ((m.getD (f + q) (0, (0, 0))) = (m.getD (f + (q - 1)) (0, (0, 0)))))) = true) => I (by omega : q < n - f) (I (by omega : f + q < m.length) (I (by omega : j < n) (I (by omega : j < m.length) (I (show (q + 1) ≤ 1048576 by omega : Bnd (.nat .i64) (.n 1048576) (q + 1)) (I (show (j + 1) ≤ 1048576 by omega : Bnd (.nat .i64) (.n 1048576) (j + 1)) (And.intro (⟨by rw [show f + (q + 1) = f + q + 1 by omega]; exact hJ.1.go (by omega) (by rw [show f + q - 1 = f + (q - 1) by omega]; exact mt of_decide_eq_true (nd h8)), by omega⟩ : CmI z3 eqV l (m.set j (m.getD (f + q) (0, (0, 0)))) (j + 1) (f + (q + 1)) ∧ 1 ≤ (q + 1)) (by omega : n - f - (q + 1) < n - f - q)))))))) (fun (h9 : ¬ ((!(decide ((m.getD (f + q) (0, (0, 0))) = (m.getD (f + (q - 1)) (0, (0, 0)))))) = true)) => I (show (q + 1) ≤ 1048576 by omega : Bnd (.nat .i64) (.n 1048576) (q + 1)) (And.intro (⟨by rw [show f + (q + 1) = f + q + 1 by omega]; exact hJ.1.stay (by omega) (by rw [show f + q - 1 = f + (q - 1) by omega]; exact decide_eq_true (nd' h9)), by omega⟩ : CmI z3 eqV l m j (f + (q + 1)) ∧ 1 ≤ (q + 1)) (by omega : n - f - (q + 1) < n - f - q))))))))) (fun (h10 : ¬ (q < n - f)) => I (by omega : j ≤ n) (I (by omega : n ≤ m.length) (I (by omega : 0 < n - j) (I (by omega : j + (n - j) ≤ m.length) (I (by omega : j ≤ n) (I (by rw [NU (t := tV3) (by omega)]; omega : n ≤ (clrL (.pr .rat (.pr .rat .rat)) m j (n - j)).length) (And.intro ((CmI.all (t := tV3) (e := eqV) hJ.1 (by omega) (by omega)).1 : clrL (.pr .rat (.pr .rat .rat)) m j (n - j) = unqF z3 eqV l) (((CmI.all (t := tV3) (e := eqV) (n := n) hJ.1 (by omega) (by omega)).2 : j = (unqD z3 eqV l).length))))))))))))) (fun (h13 : ¬ (decide ((m0.getD f (0, (0, 0))) = (m0.getD (f - 1) (0, (0, 0)))) = true)) => I (show (f + 1) ≤ 1048576 by omega : Bnd (.nat .i64) (.n 1048576) (f + 1)) (And.intro (⟨hI.1, hI.2.step (by omega) h13⟩ : m0 = l ∧ CmO z3 eqV m0 (f + 1)) (by omega : n - (f + 1) < n - f))))))))) (fun (h14 : ¬ (f < n)) => And.intro (by have hd := hI.2.all (by omega); rw [hI.1] at hd ⊢; exact GD hd : m0 = unqF z3 eqV l) ((by have hd := hI.2.all (by omega); rw [hI.1] at hd; rw [hd]; exact hp0 : n = (unqD z3 eqV l).length))))))⟩)
abbrev KN : CtrS Tryz.prog := FV.c KP
def rwSF (slot : Nat) (t : Ty) (b : Bd) (y : t.den) (st : WSt) : Option (List Prop × WSt) :=
 match look st.m slot with
 | some (.c (.one (.dt t' b' x))) => if h : t'.beq t = true then (bif jc st.m then some ([jp h x = y, Bnd t b y], setV st slot (.c (.one (.dt t b y)))) else none) else none
 | some (.c (.agg [.dt t' b' x])) => if h : t'.beq t = true then (bif jc st.m then some ([jp h x = y, Bnd t b y], setV st slot (.c (.agg [.dt t b y]))) else none) else none
 | _ => none
def rwS (slot : Nat) (t : Ty) (b : Bd) (y : t.den) : PExt := ⟨fun _ st => rwSF slot t b y st, by
 intro n Ks st st' vc hk h hvc
 unfold rwSF at h
 split at h
 ·rename_i t' b' x hl
  split at h
  ·rename_i hb
   have := Ty.beq_eq hb; subst this
   cases hn : jc st.m with
   | false => rw [hn] at h; cases h
   | true =>
    rw [hn] at h
    simp only [cond_true, Option.some.injEq, Prod.mk.injEq] at h; obtain ⟨rfl, rfl⟩ := h
    have e : jp hb x = y := hvc _ List.mem_cons_self
    have e2 : Bnd t' b y := hvc (Bnd t' b y) (by simp)
    rw [AJ] at e; subst e
    have h0 : (WV.c (.one (.dt t' b' x))).ok := hk.m slot _ (by unfold qv; rw [hl])
    exact AA hk hn hl rfl ⟨e2, h0.2⟩
  ·cases h
 ·rename_i t' b' x hl
  split at h
  ·rename_i hb
   have := Ty.beq_eq hb; subst this
   cases hn : jc st.m with
   | false => rw [hn] at h; cases h
   | true =>
    rw [hn] at h
    simp only [cond_true, Option.some.injEq, Prod.mk.injEq] at h; obtain ⟨rfl, rfl⟩ := h
    have e : jp hb x = y := hvc _ List.mem_cons_self
    have e2 : Bnd t' b y := hvc (Bnd t' b y) (by simp)
    rw [AJ] at e; subst e
    exact AA hk hn hl rfl (j4 e2)
  ·cases h
 ·cases h⟩
section
def Sz (h : Nat) (x : Int) : Prop := x.natAbs ≤ 2 ^ h
section
variable {h k : Nat} {x y : Int}
theorem Sz.le (a : Sz h x) (e : h ≤ k) : Sz k x := Nat.le_trans a (Nat.pow_le_pow_right (by decide) e)
theorem Sz.mul (a : Sz h x) (b : Sz k y) : Sz (h + k) (x * y) := by
 unfold Sz at *; rw [Int.natAbs_mul, Nat.pow_add]; exact Nat.mul_le_mul a b
theorem Sz.neg (a : Sz h x) : Sz h (-x) := by unfold Sz at *; rw [Int.natAbs_neg]; exact a
theorem Sz.add (a : Sz h x) (b : Sz h y) : Sz (h + 1) (x + y) := by
 unfold Sz at *; have := Int.natAbs_add_le x y; rw [Nat.pow_succ]; omega
theorem Sz.sub (a : Sz h x) (b : Sz h y) : Sz (h + 1) (x - y) := by rw [Int.sub_eq_add_neg]; exact a.add b.neg
end
def Hg (h : Nat) (p : V3) : Prop := ∃ X Y Z W : Int, 0 < W ∧ Sz h W ∧ Sz h X ∧ Sz h Y ∧ Sz h Z ∧ p.1 * (W : Rat) = X ∧ p.2.1 * (W : Rat) = Y ∧ p.2.2 * (W : Rat) = Z
def Hp (h : Nat) (q : V3 × Rat) : Prop := ∃ X Y Z D S : Int, 0 < S ∧ Sz h S ∧ Sz h X ∧ Sz h Y ∧ Sz h Z ∧ Sz h D ∧ q.1.1 * (S : Rat) = X ∧ q.1.2.1 * (S : Rat) = Y ∧ q.1.2.2 * (S : Rat) = Z ∧ q.2 * (S : Rat) = D
theorem Hg.le {h k : Nat} {p : V3} (a : Hg h p) (e : h ≤ k) : Hg k p := by
 obtain ⟨X, Y, Z, W, h0, h1, h2, h3, h4, h5⟩ := a
 exact ⟨X, Y, Z, W, h0, h1.le e, h2.le e, h3.le e, h4.le e, h5⟩
theorem Hp.le {h k : Nat} {p : V3 × Rat} (a : Hp h p) (e : h ≤ k) : Hp k p := by
 obtain ⟨X, Y, Z, W, S, h0, h1, h2, h3, h4, h5, h6⟩ := a
 exact ⟨X, Y, Z, W, S, h0, h1.le e, h2.le e, h3.le e, h4.le e, h5.le e, h6⟩
theorem ipos {W : Int} (h : 0 < W) : (0 : Rat) < (W : Rat) := by have := Rat.intCast_lt_intCast.2 h; simpa using this
theorem FJ (x : Rat) : x * ((x.den : Int) : Rat) = ((x.num : Int) : Rat) := by
 have h : (x.num : Rat) / ((x.den : Int) : Rat) = x := by rw [← Rat.divInt_eq_div]; exact Rat.num_divInt_den x
 have d0 : ((x.den : Int) : Rat) ≠ 0 := fun e => by have := ipos (Int.natCast_pos.2 x.den_pos); rw [e] at this; exact absurd this (by decide)
 have := div_eq (x := (x.num : Rat)) d0
 rw [h] at this; grind
theorem Hg.of {m : Nat} {p : V3} (hp : Bnd tV3 (bV3 m) p) : Hg (3 * m) p := by
 obtain ⟨a, b, c⟩ := p
 obtain ⟨ha, hb, hc⟩ := hp
 have sz : ∀ x : Rat, Bnd .rat (.n m) x → Sz m x.num ∧ Sz m (x.den : Int) := fun x hx => ⟨Nat.le_of_lt hx.1, by show Int.natAbs (x.den : Int) ≤ 2 ^ m; rw [Int.natAbs_natCast]; exact hx.2⟩
 obtain ⟨a1, a2⟩ := sz a ha; obtain ⟨b1, b2⟩ := sz b hb; obtain ⟨c1, c2⟩ := sz c hc
 have ea := FJ a; have eb := FJ b; have ec := FJ c
 have pa : (0 : Int) < a.den := Int.natCast_pos.2 a.den_pos
 have pb : (0 : Int) < b.den := Int.natCast_pos.2 b.den_pos
 have pc : (0 : Int) < c.den := Int.natCast_pos.2 c.den_pos
 refine ⟨a.num * b.den * c.den, b.num * a.den * c.den, c.num * a.den * b.den, a.den * b.den * c.den, Int.mul_pos (Int.mul_pos pa pb) pc, ((a2.mul b2).mul c2).le (by omega), ((a1.mul b2).mul c2).le (by omega), ((b1.mul a2).mul c2).le (by omega), ((c1.mul a2).mul b2).le (by omega), ?_, ?_, ?_⟩ <;> simp only [Rat.intCast_mul] <;> grind
theorem Hg.bnd {h m : Nat} {p : V3} (hp : Hg h p) (e : h + 1 ≤ m) : Bnd tV3 (bV3 m) p := by
 obtain ⟨X, Y, Z, W, h0, h1, h2, h3, h4, e1, e2, e3⟩ := hp
 have hW := ipos h0
 have key : ∀ (x : Rat) (N : Int), Sz h N → x * (W : Rat) = N → Bnd .rat (.n m) x := fun x N hN hx => by
  have : x = (N : Rat) / (W : Rat) := by
   have := div_eq (x := (N : Rat)) (y := (W : Rat)) (by grind)
   generalize (N : Rat) / (W : Rat) = t at *
   have h9 : (x - t) * (W : Rat) = 0 := by grind
   rcases Rat.mul_eq_zero.1 h9 with h9 | h9 <;> grind
  rw [this]
  refine j8 (Ac hN h1) ?_
  rw [Nat.log2_two_pow]; simp; omega
 exact ⟨key _ _ h2 e1, key _ _ h3 e2, key _ _ h4 e3⟩
theorem Hg.mk {h : Nat} {p : V3} {X Y Z W : Int} (h0 : W ≠ 0) (h1 : Sz h W) (h2 : Sz h X) (h3 : Sz h Y) (h4 : Sz h Z) (e1 : p.1 * (W : Rat) = X) (e2 : p.2.1 * (W : Rat) = Y) (e3 : p.2.2 * (W : Rat) = Z) : Hg h p := by
 rcases Int.lt_or_lt_of_ne h0 with c | c
 ·refine ⟨-X, -Y, -Z, -W, by omega, h1.neg, h2.neg, h3.neg, h4.neg, ?_, ?_, ?_⟩ <;> rw [Rat.intCast_neg, Rat.intCast_neg] <;> grind
 ·exact ⟨X, Y, Z, W, c, h1, h2, h3, h4, e1, e2, e3⟩
theorem Qc {q : V3 × Rat} {p : V3} {A B C D S X Y Z W : Int} (a : q.1.1 * (S : Rat) = A) (b : q.1.2.1 * (S : Rat) = B) (c : q.1.2.2 * (S : Rat) = C) (d : q.2 * (S : Rat) = D) (x : p.1 * (W : Rat) = X) (y : p.2.1 * (W : Rat) = Y) (z : p.2.2 * (W : Rat) = Z) :
    valP q p * ((S : Rat) * (W : Rat)) = ((A * X + B * Y + C * Z - D * W : Int) : Rat) := by
  simp only [Rat.intCast_sub, Rat.intCast_add, Rat.intCast_mul, valP, dotQ, ← a, ← b, ← c, ← d, ← x, ← y, ← z]; grind
theorem Xd {q : V3 × Rat} {a b : V3} {k h : Nat} (hq : Hp k q) (ha : Hg h a) (hb : Hg h b) (hs : valP q a - valP q b ≠ 0) : Hg (k + 2 * h + 4) (crsV q a b) := by
 obtain ⟨A, B, C, D, S, s0, s1, a1, b1, c1, d1, ea, eb, ec, ed⟩ := hq
 obtain ⟨X, Y, Z, W, w0, w1, x1, y1, z1, ex, ey, ez⟩ := ha
 obtain ⟨X', Y', Z', W', w0', w1', x1', y1', z1', ex', ey', ez'⟩ := hb
 have va := Qc ea eb ec ed ex ey ez
 have vb := Qc ea eb ec ed ex' ey' ez'
 have sa : Sz (k + h + 2) (A * X + B * Y + C * Z - D * W) := by
  have t1 := (a1.mul x1).add (b1.mul y1)
  have t2 := (c1.mul z1).sub (d1.mul w1)
  have := t1.add t2
  rw [show A * X + B * Y + C * Z - D * W = A * X + B * Y + (C * Z - D * W) by omega]; exact this
 have sb : Sz (k + h + 2) (A * X' + B * Y' + C * Z' - D * W') := by
  have t1 := (a1.mul x1').add (b1.mul y1')
  have t2 := (c1.mul z1').sub (d1.mul w1')
  have := t1.add t2
  rw [show A * X' + B * Y' + C * Z' - D * W' = A * X' + B * Y' + (C * Z' - D * W') by omega]; exact this
 generalize A * X + B * Y + C * Z - D * W = ua at *
 generalize A * X' + B * Y' + C * Z' - D * W' = ub at *
 have hS := ipos s0; have hW := ipos w0; have hW' := ipos w0'
 have et := div_eq (x := valP q a) hs
 unfold crsV
 generalize valP q a / (valP q a - valP q b) = t at *
 generalize valP q a = vA at *; generalize valP q b = vB at *
 have sz : ∀ u v : Int, Sz h u → Sz h v → Sz (k + 2 * h + 4) (ua * u - ub * v) := fun u v hu hv => ((sa.mul hu).sub (sb.mul hv)).le (by omega)
 have hne : ua * W' - ub * W ≠ 0 := fun e => by
  have e2 : ((ua * W' - ub * W : Int) : Rat) = 0 := by rw [e]; rfl
  simp only [Rat.intCast_sub, Rat.intCast_mul, ← va, ← vb] at e2
  have e3 : (S : Rat) * ((W : Rat) * ((W' : Rat) * (vA - vB))) = 0 := by grind
  rcases Rat.mul_eq_zero.1 e3 with e3 | e3
  ·grind
  ·rcases Rat.mul_eq_zero.1 e3 with e3 | e3
   ·grind
   ·rcases Rat.mul_eq_zero.1 e3 with e3 | e3 <;> grind
 refine Hg.mk (X := ua * X' - ub * X) (Y := ua * Y' - ub * Y) (Z := ua * Z' - ub * Z) (W := ua * W' - ub * W) hne (sz _ _ w1' w1) (sz _ _ x1' x1) (sz _ _ y1' y1) (sz _ _ z1' z1) ?_ ?_ ?_ <;>
  simp only [Rat.intCast_sub, Rat.intCast_mul, ← va, ← vb, ← ex, ← ey, ← ez, ← ex', ← ey', ← ez', onS, addV, qh, subV] <;> grind
theorem XI {q : V3 × Rat} {k : Nat} (h : Hp k q) : Hp k (oppP q) := by
 obtain ⟨A, B, C, D, S, s0, s1, a1, b1, c1, d1, ea, eb, ec, ed⟩ := h
 have e : ((-1 : Int) : Rat) = -1 := rfl
 refine ⟨-A, -B, -C, -D, S, s0, s1, a1.neg, b1.neg, c1.neg, d1.neg, ?_, ?_, ?_, ?_⟩ <;> simp only [Rat.intCast_neg, oppP, qh, e] <;> grind
theorem Q6 {N p : V3} {A B C S : Int} {k h : Nat} (s0 : 0 < S) (s1 : Sz k S) (a1 : Sz k A) (b1 : Sz k B) (c1 : Sz k C) (ea : N.1 * (S : Rat) = A) (eb : N.2.1 * (S : Rat) = B) (ec : N.2.2 * (S : Rat) = C) (hp : Hg h p) : Hp (k + h + 2) (N, dotQ N p) := by
 obtain ⟨X, Y, Z, W, w0, w1, x1, y1, z1, ex, ey, ez⟩ := hp
 refine ⟨A * W, B * W, C * W, A * X + B * Y + C * Z, S * W, Int.mul_pos s0 w0, (s1.mul w1).le (by omega), (a1.mul w1).le (by omega), (b1.mul w1).le (by omega), (c1.mul w1).le (by omega), ?_, ?_, ?_, ?_, ?_⟩
 ·exact ((a1.mul x1).add (b1.mul y1)).add ((c1.mul z1).le (Nat.le_succ _))
 ·simp only [Rat.intCast_mul, ← ea]; grind
 ·simp only [Rat.intCast_mul, ← eb]; grind
 ·simp only [Rat.intCast_mul, ← ec]; grind
 ·simp only [Rat.intCast_mul, Rat.intCast_add, ← ea, ← eb, ← ec, ← ex, ← ey, ← ez, dotQ]; grind
theorem L3 {a b : V3} {h : Nat} (ha : Hg h a) (hb : Hg h b) : Hg (2 * h + 1) (subV a b) := by
 obtain ⟨X, Y, Z, W, w0, w1, x1, y1, z1, ex, ey, ez⟩ := ha
 obtain ⟨X', Y', Z', W', w0', w1', x1', y1', z1', ex', ey', ez'⟩ := hb
 refine ⟨X * W' - X' * W, Y * W' - Y' * W, Z * W' - Z' * W, W * W', Int.mul_pos w0 w0', (w1.mul w1').le (by omega), ((x1.mul w1').sub (x1'.mul w1)).le (by omega), ((y1.mul w1').sub (y1'.mul w1)).le (by omega), ((z1.mul w1').sub (z1'.mul w1)).le (by omega), ?_, ?_, ?_⟩ <;>
  simp only [Rat.intCast_sub, Rat.intCast_mul, ← ex, ← ey, ← ez, ← ex', ← ey', ← ez', subV] <;> grind
theorem Hq {a b : V3} {h k : Nat} (ha : Hg h a) (hb : Hg k b) : Hg (h + k + 1) (qb a b) := by
 obtain ⟨X, Y, Z, W, w0, w1, x1, y1, z1, ex, ey, ez⟩ := ha
 obtain ⟨X', Y', Z', W', w0', w1', x1', y1', z1', ex', ey', ez'⟩ := hb
 refine ⟨Y * Z' - Z * Y', Z * X' - X * Z', X * Y' - Y * X', W * W', Int.mul_pos w0 w0', (w1.mul w1').le (by omega), (y1.mul z1').sub (z1.mul y1'), (z1.mul x1').sub (x1.mul z1'), (x1.mul y1').sub (y1.mul x1'), ?_, ?_, ?_⟩ <;>
  simp only [Rat.intCast_sub, Rat.intCast_mul, ← ex, ← ey, ← ez, ← ex', ← ey', ← ez', qb] <;> grind
theorem S3 {t : T3} {h : Nat} (h1 : Hg h t.1) (h2 : Hg h t.2.1) (h3 : Hg h t.2.2) : Hg (4 * h + 3) (qy t) ∧ Hp (5 * h + 5) (qd t) := by
 have hN : Hg (4 * h + 3) (qy t) := (Hq (L3 h2 h1) (L3 h3 h1)).le (by omega)
 refine ⟨hN, ?_⟩
 obtain ⟨X, Y, Z, W, w0, w1, x1, y1, z1, ex, ey, ez⟩ := hN
 exact (Q6 w0 w1 x1 y1 z1 ex ey ez h1).le (by omega)
theorem CR {q : V3 × Rat} {a b : V3} {k h : Nat} (hN : Hg k q.1) (ha : Hg h a) (hb : Hg h b) : Hp (k + 3 * h + 4) (upP q a b) := by
 obtain ⟨X, Y, Z, W, w0, w1, x1, y1, z1, ex, ey, ez⟩ := Hq (L3 hb ha) hN
 exact (Q6 w0 w1 x1 y1 z1 ex ey ez ha).le (by omega)
theorem z3_h (h : Nat) : Hg h z3 := by
 have p : ∀ x : Int, x.natAbs ≤ 1 → Sz h x := fun x hx => Nat.le_trans hx Nat.one_le_two_pow
 have z : (0 : Rat) * ((1 : Int) : Rat) = ((0 : Int) : Rat) := (Rat.zero_mul _).trans rfl
 exact ⟨0, 0, 0, 1, by decide, p 1 (by decide), p 0 (by decide), p 0 (by decide), p 0 (by decide), z, z, z⟩
theorem Hx {l : List V3} {m : Nat} (h : ∀ x ∈ l, Hg m x) (i : Nat) : Hg m (l.getD i z3) := by
 by_cases hi : i < l.length
 ·rw [qM hi]; exact h _ (List.getElem_mem hi)
 ·rw [List.getD_eq_getElem?_getD, List.getElem?_eq_none (by omega)]; exact z3_h m
theorem J7 {q : V3 × Rat} {l : List V3} {k h : Nat} (hq : Hp k q) (hl : ∀ x ∈ l, Hg h x) : ∀ i, ∀ x ∈ qU q l i, Hg (k + 2 * h + 4) x
 | 0, x, hx => by cases hx
 | i + 1, x, hx => by
  rcases List.mem_append.1 hx with hx | hx
  ·exact J7 hq hl i x hx
  ·unfold zO at hx
   rcases List.mem_append.1 hx with hx | hx
   ·split at hx
    ·rw [List.mem_singleton.1 hx]; exact (Hx hl i).le (by omega)
    ·cases hx
   ·split at hx
    ·rename_i hc
     rw [List.mem_singleton.1 hx]
     refine Xd hq (Hx hl i) (Hx hl _) fun e => ?_
     have e2 : dotQ q.1 (l.getD i z3) = dotQ q.1 (l.getD ((i + 1) % l.length) z3) := by unfold valP at e; grind
     rw [e2] at hc
     generalize cmpQ (dotQ q.1 (l.getD ((i + 1) % l.length) z3)) q.2 = c at hc
     have : 0 ≤ c * c := by
      rcases Int.le_total 0 c with h | h
      ·exact Int.mul_nonneg h h
      ·exact Int.mul_nonneg_of_nonpos_of_nonpos h h
     omega
    ·cases hx
theorem AU {q : V3 × Rat} {l : List V3} {k h : Nat} (hq : Hp k q) (hl : ∀ x ∈ l, Hg h x) : ∀ x ∈ qH q l, Hg (k + 2 * h + 4) x := J7 hq hl _
theorem Qn {a b : T3} {h : Nat} (ha : Hg h a.1 ∧ Hg h a.2.1 ∧ Hg h a.2.2) (hb : Hg h b.1 ∧ Hg h b.2.1 ∧ Hg h b.2.2) : ∀ x ∈ qa a b, Hg (208 * h + 300) x := by
 have hp := S3 hb.1 hb.2.1 hb.2.2
 have l0 : ∀ x ∈ [a.1, a.2.1, a.2.2], Hg h x := fun x hx => by
  simp only [List.mem_cons, List.not_mem_nil, or_false] at hx
  rcases hx with rfl | rfl | rfl
  ·exact ha.1
  ·exact ha.2.1
  ·exact ha.2.2
 have c1 := AU hp.2 l0
 have c2 := AU (XI hp.2) c1
 have c3 := AU (CR (q := qd b) hp.1 hb.1 hb.2.1) c2
 have c4 := AU (CR (q := qd b) hp.1 hb.2.1 hb.2.2) c3
 have c5 := AU (CR (q := qd b) hp.1 hb.2.2 hb.1) c4
 exact fun x hx => (c5 x hx).le (by omega)
theorem DM {a b : T3} {k : Nat} (hk : 41000 ≤ k) (ha : Bnd tT3 (bT3 64) a) (hb : Bnd tT3 (bT3 64) b) : (WV.c (.one (.dt (.sl tV3) (.s 96 (bV3 k)) (qq a b)))).ok := by
 refine qe ?_ rfl
 have h : Bnd (.sl tV3) (.s 96 (bV3 k)) (qq a b) := by
  unfold qq
  split
  ·exact ⟨Nat.zero_le _, fun x hx => by cases hx⟩
  ·have g := J6 (m := 64) (a := a) (b := b) ⟨ha.1, ha.2.1, ha.2.2⟩ ⟨hb.1, hb.2.1, hb.2.2⟩
   have g2 := Qn (h := 3 * 64) (a := a) (b := b) ⟨Hg.of ha.1, Hg.of ha.2.1, Hg.of ha.2.2⟩ ⟨Hg.of hb.1, Hg.of hb.2.1, Hg.of hb.2.2⟩
   exact ⟨Nat.le_trans (Ci _) g.1, fun x hx => (g2 x (Cj hx)).bnd (by omega)⟩
 exact h
end
abbrev OG : FI := ⟨121, [(.sl (.pr .rat (.pr .rat .rat))), (.fn 122)], [(.s 1048576 (.p (.n 1099511627776) (.p (.n 1099511627776) (.n 1099511627776)))), .u], fun _ => [], fun b z => (fun (l : List (Rat × Rat × Rat)) (u : Unit) => .c (.one (.dt (.sl tV3) (b0 b) l))) z.1 z.2⟩
theorem OH : OG.OK Tryz.prog := mkF hmix 28 Tryz.func121 rfl rfl (by decide) [(122, .c OM)] (fun _ => rfl) (fun _ => rfl) (fun _ _ => rfl) (fun (l : List (Rat × Rat × Rat)) (u : Unit) b hx hp => qe (Bnds.h2 hx).1 rfl) (fun (l : List (Rat × Rat × Rat)) (u : Unit) hx hp => by
 have hl0 : l.length ≤ 1048576 := hx.1.1
 exact ⟨.cond (.nil) (.h 3 2 (.mk (.arr (.pr .rat (.pr .rat .rat)) (.p (.n 1099511627776) (.p (.n 1099511627776) (.n 1099511627776))))) (.loop [.s 15 (.nat .i64) (.n 1048576), .a 12 (.pr .rat (.pr .rat .rat)) (.p (.n 1099511627776) (.p (.n 1099511627776) (.n 1099511627776)))] (fun ((i, out) : Nat × List (Rat × Rat × Rat)) => Cpy l out i) (fun ((i, out) : Nat × List (Rat × Rat × Rat)) => l.length - i) (fun ((i, out) : Nat × List (Rat × Rat × Rat)) => .cond (.nil) (.pre 999999 (.frz 12 true [4]) (.nil))))), kcast (by kernel_rfl) (And.intro (fun (h1 : l = []) => (by rw [h1] : [] = l)) (I (by omega : l.length = l.length) (I (Cpy.start _ : Cpy l (List.replicate l.length ((0, (0, 0)) : Rat × Rat × Rat)) 0) (fun (i : Nat) (out : List (Rat × Rat × Rat)) (hb3 : HB [.s 15 (.nat .i64) (.n 1048576), .a 12 (.pr .rat (.pr .rat .rat)) (.p (.n 1099511627776) (.p (.n 1099511627776) (.n 1099511627776)))] (i, out)) (hI : Cpy l out i) => have hv6 := (show i ≤ 1048576 from hb3.1); have hIl := hI.hl; have hIi := hI.hi; And.intro (fun (h4 : i < l.length) => I (by omega : i < l.length) (I (by omega : i < l.length) (I (by omega : i < out.length) (I (show (i + 1) ≤ 1048576 by omega : Bnd (.nat .i64) (.n 1048576) (i + 1)) (And.intro (hI.step _ (by omega) : Cpy l (out.set i (l.getD i (0, (0, 0)))) (i + 1)) (by omega : l.length - (i + 1) < l.length - i)))))) (fun (h5 : ¬ (i < l.length)) => I (by omega : l.length = out.length) ((hI.fin (by omega) : out = l)))))))⟩)
abbrev OF : Ctr Tryz.prog := FI.c OH
abbrev MM : FI := ⟨56, [(.sl (.pr .rat (.pr .rat .rat)))], [(.s 1048576 (.p (.n 1099511627776) (.p (.n 1099511627776) (.n 1099511627776))))], fun _ => [], fun b z => (fun (l : List (Rat × Rat × Rat)) => .c (.one (.dt (.sl tV3) (b0 b) l))) z⟩
theorem MN : MM.OK Tryz.prog := mkF hmix 5 Tryz.func56 rfl rfl (by decide) [(121, .c OF)] (fun _ => rfl) (fun _ => rfl) (fun _ _ => rfl) (fun (l : List (Rat × Rat × Rat)) b hx hp => qe (Bnds.h1 hx) rfl) (fun (l : List (Rat × Rat × Rat)) hx hp => by
 exact ⟨.nil, kcast (by kernel_rfl) ((Eq.refl l))⟩)
abbrev ML : Ctr Tryz.prog := FI.c MN
abbrev RH : FI := ⟨125, [(.sl (.pr .rat (.pr .rat .rat)))], [(.s 255 (.p (.n 536870904) (.p (.n 536870904) (.n 536870904))))], fun z => (fun (l : List (Rat × Rat × Rat)) => [l.length ≤ 12]) z, fun b z => (fun (l : List (Rat × Rat × Rat)) => .c (.one (.dt (.sl tV3) (.s (b0 b).len (b0 b).e) (zk l)))) z⟩
theorem RI : RH.OK Tryz.prog := mkF hmix 56 Tryz.func125 rfl rfl (by decide) [(197, .o OQ), (198, .s R0), (200, .s KN), (202, .c UR)] (fun _ => rfl) (fun _ => rfl) (fun _ _ => rfl) (fun (l : List (Rat × Rat × Rat)) b hx hp => qe (U0 (Bnds.h1 hx)) rfl) (fun (l : List (Rat × Rat × Rat)) hx hp => by
 have hl0 : l.length ≤ 255 := hx.1
 have he0 : ∀ u ∈ l, Bnd (.pr .rat (.pr .rat .rat)) (.p (.n 536870904) (.p (.n 536870904) (.n 536870904))) u := hx.2
 have hp0 : l.length ≤ 12 := hp _ (List.mem_cons_self)
 exact ⟨.pre 5 (.frz 12 false [0]) (.pre 5 (.ex (rwS 0 (.sl (.pr .rat (.pr .rat .rat))) (.s 255 (.p (.n 536870904) (.p (.n 536870904) (.n 536870904)))) (qj l))) (.loop [.s 19 (.nat .i64) (.n 256), .g 3 90002 (.pr .rat (.pr .rat .rat)) (.p (.n 536870904) (.p (.n 536870904) (.n 536870904))) 255] (fun ((i, out) : Nat × List (Rat × Rat × Rat)) => out = js (qj l) i ∧ i ≤ (qj l).length) (fun ((i, out) : Nat × List (Rat × Rat × Rat)) => (qj l).length - i) (fun ((i, out) : Nat × List (Rat × Rat × Rat)) => .cond (.loop [.s 25 (.nat .i64) (.n 256), .s 6 .bool .u] (fun ((k, q) : Nat × Bool) => q = mid2 (qj l) ((qj l).getD i z3) k ∧ k ≤ (qj l).length) (fun ((k, q) : Nat × Bool) => (qj l).length - k) (fun ((k, q) : Nat × Bool) => .cond (.loop [.s 35 (.nat .i64) (.n 256), .s 6 .bool .u] (fun ((m, q2) : Nat × Bool) => q2 = (mid2 (qj l) ((qj l).getD i z3) k || mid1 (qj l) ((qj l).getD i z3) k m) ∧ m ≤ ((qj l).drop (k + 1)).length) (fun ((m, q2) : Nat × Bool) => ((qj l).drop (k + 1)).length - m) (fun ((m, q2) : Nat × Bool) => .nil)) (.cond (.h 19 2 (.mk (.im (.pr .rat (.pr .rat .rat)) (.p (.n 536870904) (.p (.n 536870904) (.n 536870904))))) (.nil)) (.nil)))) (.pre 999999 (.frz 90002 true [2]) (.nil))))), kcast (by kernel_rfl) (I (hp0 : l.length ≤ 12) (I (Eq.refl l.length) (I ((Gy z3 cpV l).symm : l.length = (jW z3 cpV l).length) (I (by rw [Po]; exact Dt : (unqD z3 eqV (jW z3 cpV l)).length ≤ (unqF z3 eqV (jW z3 cpV l)).length) (I (Np : (unqF z3 eqV (jW z3 cpV l)).take ((unqD z3 eqV (jW z3 cpV l)).length) = (qj l)) (I (T5 (by omega) he0 : Bnd (.sl (.pr .rat (.pr .rat .rat))) (.s 255 (.p (.n 536870904) (.p (.n 536870904) (.n 536870904)))) (qj l)) (I (rfl : 0 = ([] : List (Rat × Rat × Rat)).length) (I (⟨rfl, Nat.zero_le _⟩ : ([] : List (Rat × Rat × Rat)) = js (qj l) 0 ∧ 0 ≤ (qj l).length) (fun (i : Nat) (out : List (Rat × Rat × Rat)) (hb1 : HB [.s 19 (.nat .i64) (.n 256), .g 3 90002 (.pr .rat (.pr .rat .rat)) (.p (.n 536870904) (.p (.n 536870904) (.n 536870904))) 255] (i, out)) (hI : out = js (qj l) i ∧ i ≤ (qj l).length) => have hv16 := (show i ≤ 256 from hb1.1); have hv17 := (show out.length ≤ 255 from hb1.2.1); have hIi := hI.2; have hol := (show out.length ≤ i from by rw [hI.1]; exact Ce _ _); have hsu := CN l; And.intro (fun (h2 : i < (qj l).length) => I (by omega : i < (qj l).length) (I (⟨rfl, Nat.zero_le _⟩ : false = mid2 (qj l) ((qj l).getD i z3) 0 ∧ 0 ≤ (qj l).length) (fun (k : Nat) (q : Bool) (hb3 : HB [.s 25 (.nat .i64) (.n 256), .s 6 .bool .u] (k, q)) (hJ : q = mid2 (qj l) ((qj l).getD i z3) k ∧ k ≤ (qj l).length) => have hv14 := (show k ≤ 256 from hb3.1); have hJk := hJ.2; And.intro (fun (h4 : k < (qj l).length) => I (by omega : k < (qj l).length) (I (by omega : k + 1 ≤ (qj l).length) (I (⟨by rw [hJ.1]; exact (Bool.or_false _).symm, Nat.zero_le _⟩ : q = (mid2 (qj l) ((qj l).getD i z3) k || mid1 (qj l) ((qj l).getD i z3) k 0) ∧ 0 ≤ ((qj l).drop (k + 1)).length) (fun (m : Nat) (q2 : Bool) (hb5 : HB [.s 35 (.nat .i64) (.n 256), .s 6 .bool .u] (m, q2)) (hK : q2 = (mid2 (qj l) ((qj l).getD i z3) k || mid1 (qj l) ((qj l).getD i z3) k m) ∧ m ≤ ((qj l).drop (k + 1)).length) => have hv10 := (show m ≤ 256 from hb5.1); have hKm := hK.2; have hdl := (show ((qj l).drop (k + 1)).length = (qj l).length - (k + 1) from List.length_drop); And.intro (fun (h6 : m < ((qj l).drop (k + 1)).length) => I (by omega : m < ((qj l).drop (k + 1)).length) (And.intro (fun (h7 : q2 = true) => I (show (m + 1) ≤ 256 by omega : Bnd (.nat .i64) (.n 256) (m + 1)) (And.intro (⟨UP hK.1 h7, by omega⟩ : true = (mid2 (qj l) ((qj l).getD i z3) k || mid1 (qj l) ((qj l).getD i z3) k (m + 1)) ∧ (m + 1) ≤ ((qj l).drop (k + 1)).length) (by omega : ((qj l).drop (k + 1)).length - (m + 1) < ((qj l).drop (k + 1)).length - m))) (fun (h8 : ¬ (q2 = true)) => I (show (m + 1) ≤ 256 by omega : Bnd (.nat .i64) (.n 256) (m + 1)) (And.intro (⟨UO hK.1 h8, by omega⟩ : (decide (insQ ((qj l).getD k (0, (0, 0))) (((qj l).drop (k + 1)).getD m (0, (0, 0))) ((qj l).getD i (0, (0, 0))))) = (mid2 (qj l) ((qj l).getD i z3) k || mid1 (qj l) ((qj l).getD i z3) k (m + 1)) ∧ (m + 1) ≤ ((qj l).drop (k + 1)).length) (by omega : ((qj l).drop (k + 1)).length - (m + 1) < ((qj l).drop (k + 1)).length - m))))) (fun (h9 : ¬ (m < ((qj l).drop (k + 1)).length)) => I (show (k + 1) ≤ 256 by omega : Bnd (.nat .i64) (.n 256) (k + 1)) (And.intro (⟨UQ hK.1 h9 hK.2, by omega⟩ : q2 = mid2 (qj l) ((qj l).getD i z3) (k + 1) ∧ (k + 1) ≤ (qj l).length) (by omega : (qj l).length - (k + 1) < (qj l).length - k))))))) (fun (h11 : ¬ (k < (qj l).length)) => And.intro (fun (h12 : (!q) = true) => I (by omega : out.length = out.length) (I (show (i + 1) ≤ 256 by omega : Bnd (.nat .i64) (.n 256) (i + 1)) (I (by (try simp only [List.length_append, List.length_cons, List.length_nil]) <;> omega : out.length + [(qj l).getD i (0, (0, 0))].length = (out ++ [(qj l).getD i (0, (0, 0))]).length) (I (by (try simp only [List.length_append, List.length_cons, List.length_nil]) <;> omega : out.length + [(qj l).getD i (0, (0, 0))].length ≤ 255) (And.intro (⟨U1 hI.1 hJ.1 h11 hJ.2 h12, by omega⟩ : (out ++ [(qj l).getD i (0, (0, 0))]) = js (qj l) (i + 1) ∧ (i + 1) ≤ (qj l).length) (by omega : (qj l).length - (i + 1) < (qj l).length - i)))))) (fun (h13 : ¬ ((!q) = true)) => I (show (i + 1) ≤ 256 by omega : Bnd (.nat .i64) (.n 256) (i + 1)) (I (by omega : out.length = out.length) (And.intro (⟨U2 hI.1 hJ.1 h11 hJ.2 h13, by omega⟩ : out = js (qj l) (i + 1) ∧ (i + 1) ≤ (qj l).length) (by omega : (qj l).length - (i + 1) < (qj l).length - i)))))))) (fun (h15 : ¬ (i < (qj l).length)) => I (by omega : out.length = out.length) ((NY hI.1 (by omega) hI.2 : out = zk l))))))))))))⟩)
abbrev RG : Ctr Tryz.prog := FI.c RI
abbrev RE : FI := ⟨57, [(.pr (.pr .rat (.pr .rat .rat)) (.pr (.pr .rat (.pr .rat .rat)) (.pr .rat (.pr .rat .rat)))), (.pr (.pr .rat (.pr .rat .rat)) (.pr (.pr .rat (.pr .rat .rat)) (.pr .rat (.pr .rat .rat))))], [(.p (.p (.n 64) (.p (.n 64) (.n 64))) (.p (.p (.n 64) (.p (.n 64) (.n 64))) (.p (.n 64) (.p (.n 64) (.n 64))))), (.p (.p (.n 64) (.p (.n 64) (.n 64))) (.p (.p (.n 64) (.p (.n 64) (.n 64))) (.p (.n 64) (.p (.n 64) (.n 64)))))], fun z => (fun (a : (Rat × Rat × Rat) × (Rat × Rat × Rat) × Rat × Rat × Rat) (b_ : (Rat × Rat × Rat) × (Rat × Rat × Rat) × Rat × Rat × Rat) => [Bnd tT3 (bT3 64) a, Bnd tT3 (bT3 64) b_, (qa a b_).length ≤ 12]) z.1 z.2, fun b z => (fun (a : (Rat × Rat × Rat) × (Rat × Rat × Rat) × Rat × Rat × Rat) (b_ : (Rat × Rat × Rat) × (Rat × Rat × Rat) × Rat × Rat × Rat) => .c (.one (.dt (.sl tV3) (.s 96 (bV3 41000)) (qq a b_)))) z.1 z.2⟩
theorem RF : RE.OK Tryz.prog := mkF hmix 41 Tryz.func57 rfl rfl (by decide) [(67, .c Jn), (68, .c Gt), (70, .c Fc), (123, .c S0), (124, .c Vk), (125, .c RG)] (fun _ => rfl) (fun _ => rfl) (fun _ _ => rfl) (fun (a : (Rat × Rat × Rat) × (Rat × Rat × Rat) × Rat × Rat × Rat) (b_ : (Rat × Rat × Rat) × (Rat × Rat × Rat) × Rat × Rat × Rat) b hx hp => DM (Nat.le_refl _) (hp _ List.mem_cons_self) (hp _ (List.mem_cons_of_mem _ List.mem_cons_self))) (fun (a : (Rat × Rat × Rat) × (Rat × Rat × Rat) × Rat × Rat × Rat) (b_ : (Rat × Rat × Rat) × (Rat × Rat × Rat) × Rat × Rat × Rat) hx hp => by
 have hp2 : (qa a b_).length ≤ 12 := hp _ (List.mem_cons_of_mem _ (List.mem_cons_of_mem _ (List.mem_cons_self)))
 exact ⟨.cond (.nil) (.cond (.nil) (.pre 4 (.ex (frzP 2 (.pr (.pr .rat (.pr .rat .rat)) (.pr (.pr .rat (.pr .rat .rat)) (.pr .rat (.pr .rat .rat)))) (.p (.p (.n 64) (.p (.n 64) (.n 64))) (.p (.p (.n 64) (.p (.n 64) (.n 64))) (.p (.n 64) (.p (.n 64) (.n 64))))) [2])) (.h 4 0 (.ext (Jl (.pr .rat (.pr .rat .rat)) (.p (.n 64) (.p (.n 64) (.n 64))))) (.nil)))), kcast (by kernel_rfl) (And.intro (fun (h1 : decide (qy a = (0, 0, 0)) = true) => ((if_pos (.inl (yd h1))).symm : [] = qq a b_)) (fun (h2 : ¬ (decide (qy a = (0, 0, 0)) = true)) => And.intro (fun (h3 : decide (qy b_ = (0, 0, 0)) = true) => ((if_pos (.inr (yd h3))).symm : [] = qq a b_)) (fun (h4 : ¬ (decide (qy b_ = (0, 0, 0)) = true)) => I (hp2 : (qH (upP (qd b_) b_.2.2 b_.1) (qH (upP (qd b_) b_.2.1 b_.2.2) (qH (upP (qd b_) b_.1 b_.2.1) (qH (oppP (qd b_)) (qH (qd b_) [a.1, a.2.1, a.2.2]))))).length ≤ 12) (((if_neg (not_or.2 ⟨yd' h2, yd' h4⟩)).symm : zk (qH (upP (qd b_) b_.2.2 b_.1) (qH (upP (qd b_) b_.2.1 b_.2.2) (qH (upP (qd b_) b_.1 b_.2.1) (qH (oppP (qd b_)) (qH (qd b_) [a.1, a.2.1, a.2.2]))))) = qq a b_)))))⟩)
abbrev RD : Ctr Tryz.prog := FI.c RF
abbrev RB : FI := ⟨13, [(.pr (.pr .rat (.pr .rat .rat)) (.pr (.pr .rat (.pr .rat .rat)) (.pr .rat (.pr .rat .rat)))), (.pr (.pr .rat (.pr .rat .rat)) (.pr (.pr .rat (.pr .rat .rat)) (.pr .rat (.pr .rat .rat))))], [(.p (.p (.n 64) (.p (.n 64) (.n 64))) (.p (.p (.n 64) (.p (.n 64) (.n 64))) (.p (.n 64) (.p (.n 64) (.n 64))))), (.p (.p (.n 64) (.p (.n 64) (.n 64))) (.p (.p (.n 64) (.p (.n 64) (.n 64))) (.p (.n 64) (.p (.n 64) (.n 64)))))], fun z => (fun (a : (Rat × Rat × Rat) × (Rat × Rat × Rat) × Rat × Rat × Rat) (b_ : (Rat × Rat × Rat) × (Rat × Rat × Rat) × Rat × Rat × Rat) => [Bnd tT3 (bT3 64) a, Bnd tT3 (bT3 64) b_, (qa a b_).length ≤ 12]) z.1 z.2, fun b z => (fun (a : (Rat × Rat × Rat) × (Rat × Rat × Rat) × Rat × Rat × Rat) (b_ : (Rat × Rat × Rat) × (Rat × Rat × Rat) × Rat × Rat × Rat) => .c (.one (.dt (.sl tV3) (.s 96 (bV3 41000)) (qq a b_)))) z.1 z.2⟩
theorem RC : RB.OK Tryz.prog := mkF hmix 9 Tryz.func13 rfl rfl (by decide) [(56, .c ML), (57, .c RD)] (fun _ => rfl) (fun _ => rfl) (fun _ _ => rfl) (fun (a : (Rat × Rat × Rat) × (Rat × Rat × Rat) × Rat × Rat × Rat) (b_ : (Rat × Rat × Rat) × (Rat × Rat × Rat) × Rat × Rat × Rat) b hx hp => DM (Nat.le_refl _) (hp _ List.mem_cons_self) (hp _ (List.mem_cons_of_mem _ List.mem_cons_self))) (fun (a : (Rat × Rat × Rat) × (Rat × Rat × Rat) × Rat × Rat × Rat) (b_ : (Rat × Rat × Rat) × (Rat × Rat × Rat) × Rat × Rat × Rat) hx hp => by
 have hp0 : Bnd tT3 (bT3 64) a := hp _ (List.mem_cons_self)
 have hp1 : Bnd tT3 (bT3 64) b_ := hp _ (List.mem_cons_of_mem _ (List.mem_cons_self))
 have hp2 : (qa a b_).length ≤ 12 := hp _ (List.mem_cons_of_mem _ (List.mem_cons_of_mem _ (List.mem_cons_self)))
 exact ⟨.nil, kcast (by kernel_rfl) (I (hp0 : Bnd tT3 (bT3 64) a) (I (hp1 : Bnd tT3 (bT3 64) b_) (I (hp2 : (qa a b_).length ≤ 12) ((Eq.refl (qq a b_))))))⟩)
abbrev Jz : Ctr Tryz.prog := FI.c RC
theorem NS {a b e : Int} (h : a - b = e) (hb : e.natAbs ≤ 4611686018427387904) : qx .sub .i64 a b e := by
 show IntKind.wrap .i64 (a - b) = e
 rw [h]; exact Ed (by omega) (by omega)
theorem Ij {a : Int} (h : a.natAbs ≤ 9223372036854775808) : (Int.tdiv a 17).natAbs ≤ 1152921504606846976 := by
 rw [Int.natAbs_tdiv]
 show a.natAbs / 17 ≤ _
 omega
theorem Qh {a : Int} (h : a.natAbs ≤ 9223372036854775808) : qx .quo .i64 a 17 (Int.tdiv a 17) :=
 ⟨by decide, Ed (by have := Ij h; omega) (by have := Ij h; omega)⟩
def wE (n : Int) : Int := 1 + Int.tdiv n 17 % 12
def ER (n : Int) : Rat := ((n % (wE n + 1) : Int) : Rat) / ((wE n : Int) : Rat)
theorem JD (n : Int) : 1 ≤ wE n ∧ wE n ≤ 12 := by unfold wE; omega
theorem JE (n : Int) : Bnd .rat (.n 5) (ER n) := by
 have h := JD n
 have h1 : (n % (wE n + 1)).natAbs ≤ 12 := by
  have := Int.emod_nonneg n (show wE n + 1 ≠ 0 by omega)
  have := Int.emod_lt_of_pos n (show 0 < wE n + 1 by omega)
  omega
 have h2 : (wE n).natAbs ≤ 12 := by omega
 exact j8 (Ac h1 h2) (by decide)
theorem E1 {s : Dice} {b : Bd} (h : Bnd jI (.p b.l (.n (max b.r.nb b.l.len))) s) : Bnd jI (.p b.l (.n (max b.r.nb b.l.len))) (qY s) := by
 unfold qY; exact wP (b := b) (wP (b := b) (wP (b := b) h))
def triV (s : Dice) : T3 := (ju s, ju (qY s), ju (qY (qY s)))
def triS (s : Dice) : Dice := qY (qY (qY s))
theorem CP (s : Dice) : Bnd tT3 (bT3 5) (triV s) := ⟨Dp _, Dp _, Dp _⟩
theorem JZ {s : Dice} {b : Bd} (h : Bnd jI (.p b.l (.n (max b.r.nb b.l.len))) s) : Bnd jI (.p b.l (.n (max b.r.nb b.l.len))) (triS s) := by
 unfold triS; exact E1 (b := b) (E1 (b := b) (E1 (b := b) h))
theorem Nj {s : Dice} {b : Bd} (h : Bnd jI b s) : Bnd jI (.p b.l (.n (max b.r.nb b.l.len))) (triS s) := JZ (b := b) (LN (b := b) h)
theorem Nc {x : Rat} (h : x = 0) : sgnQ x = 0 := by rw [L1]; (repeat' split) <;> grind
def chkR (x : Rat) : Bool := decide (x.num.natAbs < 1024 ∧ x.den < 1024)
def chkV (p : V3) : Bool := chkR p.1 && chkR p.2.1 && chkR p.2.2
theorem Hi {x : Rat} (h : chkR x = true) : Bnd .rat (.n 64) x := by
 have h := of_decide_eq_true h
 refine ⟨Nat.lt_of_lt_of_le h.1 ?_, Nat.le_trans (Nat.le_of_lt h.2) ?_⟩ <;> exact Nat.pow_le_pow_right (n := 2) (by decide) (show 10 ≤ 64 by decide)
theorem Hj {p : V3} (h : chkV p = true) : Bnd tV3 (bV3 64) p := by
 unfold chkV at h; simp only [Bool.and_eq_true] at h
 exact ⟨Hi h.1.1, Hi h.1.2, Hi h.2⟩
theorem GC {t : T3} (h : (chkV t.1 && chkV t.2.1 && chkV t.2.2) = true) : Bnd tT3 (bT3 64) t := by
 simp only [Bool.and_eq_true] at h
 exact ⟨Hj h.1.1, Hj h.1.2, Hj h.2⟩
abbrev QK : FI := ⟨23, [(.int .i64)], [(.n 9223372036854775808)], fun _ => [], fun b z => (fun (x : Int) => .c (.agg [.dt .rat (.n (5)) (ER x)])) z⟩
theorem QL : QK.OK Tryz.prog := mkF hmix 14 Tryz.func23 rfl rfl (by decide) [(75, .c K7), (76, .c LS)] (fun _ => rfl) (fun _ => rfl) (fun _ _ => rfl) (fun (x : Int) b hx hp => ja (JE x)) (fun (x : Int) hx hp => by
 have hx0 : Int.natAbs x ≤ 9223372036854775808 := hx
 exact ⟨.h 1 1 (.i (.z (Int.tdiv x 17) 1152921504606846976)) (.nil), kcast (by kernel_rfl) (have hdr := (JD x); I (Qh hx0 : qx .quo .i64 x 17 (Int.tdiv x 17)) (I (Ij hx0 : Int.natAbs (Int.tdiv x 17) ≤ 1152921504606846976) (I (by omega : (0 : Int) < 12) (I (by omega : (0 : Int) < (1 + ((Int.tdiv x 17) % 12)) + 1) ((rfl : ((x % ((1 + ((Int.tdiv x 17) % 12)) + 1) : Int) : Rat) / ((1 + ((Int.tdiv x 17) % 12) : Int) : Rat) = ER x))))))⟩)
abbrev QJ : Ctr Tryz.prog := FI.c QL
abbrev Ud : FB := ⟨18, (.pr (.sl (.int .i64)) (.nat .i64)), (.p (.s 1048576 (.n 9223372036854775808)) (.n 1048576)), [], [], fun s z => [], fun tb b s z => .c (.agg [.dt tT3 (bT3 5) (triV s)]), fun s z => triS s, fun tb b => .p tb.l (.n (max tb.r.nb tb.l.len))⟩
theorem Ue : Ud.OK Tryz.prog := mkB' hmix 10 Tryz.func18 rfl rfl (by decide) [(19, .b QP)] (fun _ => rfl) (fun _ _ => rfl) (fun _ _ _ _ => rfl) (fun (s : List Int × Nat)  tb b hs hx hp => ⟨jh (CP s), Nj hs⟩) (fun (s : List Int × Nat)  hs hx hp => by
 exact ⟨.nil, kcast (by kernel_rfl) (And.intro (rfl : qY (qY (qY s)) = triS s) ((rfl : (ju s, ju (qY s), ju (qY (qY s))) = triV s)))⟩)
abbrev Uc : CtrB Tryz.prog := FB.c Ue
abbrev RN : FI := ⟨10, [], [], fun _ => [], fun b z => .c (.one (.dt .bool .u true))⟩
theorem RO : RN.OK Tryz.prog := mkF hmix 39 Tryz.func10 rfl rfl (by decide) [(13, .c Jz), (17, .c Ji), (29, .c Fk), (30, .c K8), (54, .c U4), (55, .c BV)] (fun _ => rfl) (fun _ => rfl) (fun _ _ => rfl) (fun  b hx hp => qe trivial rfl) (fun  hx hp => by
 exact ⟨.cond (.cond (.cond (.nil) (.dead)) (.dead)) (.dead), kcast (by kernel_rfl) (have hqa := (show (qq ((((0 : Int) : Rat), ((0 : Int) : Rat), ((0 : Int) : Rat)), (((1 : Int) : Rat), ((0 : Int) : Rat), ((0 : Int) : Rat)), (((0 : Int) : Rat), ((1 : Int) : Rat), ((0 : Int) : Rat))) ((((1 : Int) : Rat), ((0 : Int) : Rat), ((0 : Int) : Rat)), (((0 : Int) : Rat), ((0 : Int) : Rat), ((0 : Int) : Rat)), (((0 : Int) : Rat), ((0 : Int) : Rat), ((1 : Int) : Rat)))).length = 2 from by decide +kernel); have hqb := (show (qq ((((0 : Int) : Rat), ((0 : Int) : Rat), ((0 : Int) : Rat)), (((1 : Int) : Rat), ((0 : Int) : Rat), ((0 : Int) : Rat)), (((0 : Int) : Rat), ((1 : Int) : Rat), ((0 : Int) : Rat))) ((((1 : Int) : Rat), ((0 : Int) : Rat), ((0 : Int) : Rat)), (((0 : Int) : Rat), ((0 : Int) : Rat), ((0 : Int) : Rat)), (((0 : Int) : Rat), ((0 : Int) : Rat), ((1 : Int) : Rat)))).getD 0 (0, 0, 0) = (((0 : Int) : Rat), ((0 : Int) : Rat), ((0 : Int) : Rat)) from by decide +kernel); have hqc := (show (qq ((((0 : Int) : Rat), ((0 : Int) : Rat), ((0 : Int) : Rat)), (((1 : Int) : Rat), ((0 : Int) : Rat), ((0 : Int) : Rat)), (((0 : Int) : Rat), ((1 : Int) : Rat), ((0 : Int) : Rat))) ((((1 : Int) : Rat), ((0 : Int) : Rat), ((0 : Int) : Rat)), (((0 : Int) : Rat), ((0 : Int) : Rat), ((0 : Int) : Rat)), (((0 : Int) : Rat), ((0 : Int) : Rat), ((1 : Int) : Rat)))).getD 1 (0, 0, 0) = (((1 : Int) : Rat), ((0 : Int) : Rat), ((0 : Int) : Rat)) from by decide +kernel); have hqd := (show j9 ((((0 : Int) : Rat), ((0 : Int) : Rat), ((0 : Int) : Rat)), (((1 : Int) : Rat), ((0 : Int) : Rat), ((0 : Int) : Rat)), (((0 : Int) : Rat), ((1 : Int) : Rat), ((0 : Int) : Rat))) (((0 : Int) : Rat), ((0 : Int) : Rat), ((2 : Int) : Rat)) = ((4 : Int) : Rat) from by decide +kernel); I (GC (by decide +kernel) : Bnd tT3 (bT3 64) ((((0 : Int) : Rat), ((0 : Int) : Rat), ((0 : Int) : Rat)), (((1 : Int) : Rat), ((0 : Int) : Rat), ((0 : Int) : Rat)), ((0 : Int) : Rat), ((1 : Int) : Rat), ((0 : Int) : Rat))) (I (GC (by decide +kernel) : Bnd tT3 (bT3 64) ((((1 : Int) : Rat), ((0 : Int) : Rat), ((0 : Int) : Rat)), (((0 : Int) : Rat), ((0 : Int) : Rat), ((0 : Int) : Rat)), ((0 : Int) : Rat), ((0 : Int) : Rat), ((1 : Int) : Rat))) (I (by decide +kernel : (qa ((((0 : Int) : Rat), ((0 : Int) : Rat), ((0 : Int) : Rat)), (((1 : Int) : Rat), ((0 : Int) : Rat), ((0 : Int) : Rat)), ((0 : Int) : Rat), ((1 : Int) : Rat), ((0 : Int) : Rat)) ((((1 : Int) : Rat), ((0 : Int) : Rat), ((0 : Int) : Rat)), (((0 : Int) : Rat), ((0 : Int) : Rat), ((0 : Int) : Rat)), ((0 : Int) : Rat), ((0 : Int) : Rat), ((1 : Int) : Rat))).length ≤ 12) (And.intro (fun (h1 : (qq ((((0 : Int) : Rat), ((0 : Int) : Rat), ((0 : Int) : Rat)), (((1 : Int) : Rat), ((0 : Int) : Rat), ((0 : Int) : Rat)), ((0 : Int) : Rat), ((1 : Int) : Rat), ((0 : Int) : Rat)) ((((1 : Int) : Rat), ((0 : Int) : Rat), ((0 : Int) : Rat)), (((0 : Int) : Rat), ((0 : Int) : Rat), ((0 : Int) : Rat)), ((0 : Int) : Rat), ((0 : Int) : Rat), ((1 : Int) : Rat))).length = 2) => I (by omega : 0 < (qq ((((0 : Int) : Rat), ((0 : Int) : Rat), ((0 : Int) : Rat)), (((1 : Int) : Rat), ((0 : Int) : Rat), ((0 : Int) : Rat)), ((0 : Int) : Rat), ((1 : Int) : Rat), ((0 : Int) : Rat)) ((((1 : Int) : Rat), ((0 : Int) : Rat), ((0 : Int) : Rat)), (((0 : Int) : Rat), ((0 : Int) : Rat), ((0 : Int) : Rat)), ((0 : Int) : Rat), ((0 : Int) : Rat), ((1 : Int) : Rat))).length) (And.intro (fun (h2 : decide (((qq ((((0 : Int) : Rat), ((0 : Int) : Rat), ((0 : Int) : Rat)), (((1 : Int) : Rat), ((0 : Int) : Rat), ((0 : Int) : Rat)), ((0 : Int) : Rat), ((1 : Int) : Rat), ((0 : Int) : Rat)) ((((1 : Int) : Rat), ((0 : Int) : Rat), ((0 : Int) : Rat)), (((0 : Int) : Rat), ((0 : Int) : Rat), ((0 : Int) : Rat)), ((0 : Int) : Rat), ((0 : Int) : Rat), ((1 : Int) : Rat))).getD 0 (0, (0, 0))) = (((0 : Int) : Rat), ((0 : Int) : Rat), ((0 : Int) : Rat))) = true) => I (by omega : 1 < (qq ((((0 : Int) : Rat), ((0 : Int) : Rat), ((0 : Int) : Rat)), (((1 : Int) : Rat), ((0 : Int) : Rat), ((0 : Int) : Rat)), ((0 : Int) : Rat), ((1 : Int) : Rat), ((0 : Int) : Rat)) ((((1 : Int) : Rat), ((0 : Int) : Rat), ((0 : Int) : Rat)), (((0 : Int) : Rat), ((0 : Int) : Rat), ((0 : Int) : Rat)), ((0 : Int) : Rat), ((0 : Int) : Rat), ((1 : Int) : Rat))).length) (And.intro (fun (h3 : decide (((qq ((((0 : Int) : Rat), ((0 : Int) : Rat), ((0 : Int) : Rat)), (((1 : Int) : Rat), ((0 : Int) : Rat), ((0 : Int) : Rat)), ((0 : Int) : Rat), ((1 : Int) : Rat), ((0 : Int) : Rat)) ((((1 : Int) : Rat), ((0 : Int) : Rat), ((0 : Int) : Rat)), (((0 : Int) : Rat), ((0 : Int) : Rat), ((0 : Int) : Rat)), ((0 : Int) : Rat), ((0 : Int) : Rat), ((1 : Int) : Rat))).getD 1 (0, (0, 0))) = (((1 : Int) : Rat), ((0 : Int) : Rat), ((0 : Int) : Rat))) = true) => (decide_eq_true hqd : decide ((j9 ((((0 : Int) : Rat), ((0 : Int) : Rat), ((0 : Int) : Rat)), (((1 : Int) : Rat), ((0 : Int) : Rat), ((0 : Int) : Rat)), ((0 : Int) : Rat), ((1 : Int) : Rat), ((0 : Int) : Rat)) (((0 : Int) : Rat), ((0 : Int) : Rat), ((2 : Int) : Rat))) = ((4 : Int) : Rat)) = true)) (fun (h4 : ¬ (decide (((qq ((((0 : Int) : Rat), ((0 : Int) : Rat), ((0 : Int) : Rat)), (((1 : Int) : Rat), ((0 : Int) : Rat), ((0 : Int) : Rat)), ((0 : Int) : Rat), ((1 : Int) : Rat), ((0 : Int) : Rat)) ((((1 : Int) : Rat), ((0 : Int) : Rat), ((0 : Int) : Rat)), (((0 : Int) : Rat), ((0 : Int) : Rat), ((0 : Int) : Rat)), ((0 : Int) : Rat), ((0 : Int) : Rat), ((1 : Int) : Rat))).getD 1 (0, (0, 0))) = (((1 : Int) : Rat), ((0 : Int) : Rat), ((0 : Int) : Rat))) = true)) => (h4 (decide_eq_true hqc) : False)))) (fun (h5 : ¬ (decide (((qq ((((0 : Int) : Rat), ((0 : Int) : Rat), ((0 : Int) : Rat)), (((1 : Int) : Rat), ((0 : Int) : Rat), ((0 : Int) : Rat)), ((0 : Int) : Rat), ((1 : Int) : Rat), ((0 : Int) : Rat)) ((((1 : Int) : Rat), ((0 : Int) : Rat), ((0 : Int) : Rat)), (((0 : Int) : Rat), ((0 : Int) : Rat), ((0 : Int) : Rat)), ((0 : Int) : Rat), ((0 : Int) : Rat), ((1 : Int) : Rat))).getD 0 (0, (0, 0))) = (((0 : Int) : Rat), ((0 : Int) : Rat), ((0 : Int) : Rat))) = true)) => (h5 (decide_eq_true hqb) : False)))) (fun (h6 : ¬ ((qq ((((0 : Int) : Rat), ((0 : Int) : Rat), ((0 : Int) : Rat)), (((1 : Int) : Rat), ((0 : Int) : Rat), ((0 : Int) : Rat)), ((0 : Int) : Rat), ((1 : Int) : Rat), ((0 : Int) : Rat)) ((((1 : Int) : Rat), ((0 : Int) : Rat), ((0 : Int) : Rat)), (((0 : Int) : Rat), ((0 : Int) : Rat), ((0 : Int) : Rat)), ((0 : Int) : Rat), ((0 : Int) : Rat), ((1 : Int) : Rat))).length = 2)) => (h6 hqa : False))))))⟩)
abbrev RM : Ctr Tryz.prog := FI.c RO
section
def lcQ (c : Rat) (q : V3 × Rat) (d : Rat) (r : V3 × Rat) (e : Rat) : V3 × Rat := (addV (qh c q.1) (qh d r.1), c * q.2 + d * r.2 - e)
theorem zz (c : Rat) (q : V3 × Rat) (d : Rat) (r : V3 × Rat) (e : Rat) (p : V3) : valP (lcQ c q d r e) p = c * valP q p + d * valP r p + e := by
 obtain ⟨⟨a1, a2, a3⟩, a4⟩ := q; obtain ⟨⟨b1, b2, b3⟩, b4⟩ := r; obtain ⟨p1, p2, p3⟩ := p
 simp only [valP, lcQ, addV, qh, dotQ]; grind
def ngQ (q : V3 × Rat) : V3 × Rat := lcQ (-1) q 0 q 0
theorem ji (q : V3 × Rat) (p : V3) : valP (ngQ q) p = -valP q p := by unfold ngQ; rw [zz]; grind
theorem Du (q : V3 × Rat) (a b : V3) (t : Rat) : valP q (onS a b t) = valP q a + t * (valP q b - valP q a) := by
 obtain ⟨⟨a1, a2, a3⟩, a4⟩ := q; obtain ⟨b1, b2, b3⟩ := b; obtain ⟨p1, p2, p3⟩ := a
 simp only [valP, onS, addV, qh, subV, dotQ]; grind
theorem Pr {q : V3 × Rat} {p : V3} : (cmpQ (dotQ q.1 p) q.2 ≤ 0 ↔ valP q p ≤ 0) := by rw [Qt]; unfold valP; grind
theorem Ns {q : V3 × Rat} {a b : V3} : cmpQ (dotQ q.1 a) q.2 * cmpQ (dotQ q.1 b) q.2 < 0 ↔ (valP q a < 0 ∧ 0 < valP q b) ∨ (0 < valP q a ∧ valP q b < 0) := by
 unfold valP cmpQ
 (repeat' split) <;> grind
section
variable (l : List V3)
def wq (i : Nat) : V3 := l.getD (i % l.length) z3
def plc (i : Nat) (t : Rat) : V3 := onS (wq l i) (wq l (i + 1)) t
end
def PLt (p s : Nat × Rat) : Prop := p.1 < s.1 ∨ (p.1 = s.1 ∧ p.2 < s.2)
def QC (l : List V3) : Prop := ∀ q : V3 × Rat, ∀ i j k m : Nat, i < j → j < k → k < m → m < l.length →
 ¬ (0 < valP q (l.getD i z3) ∧ valP q (l.getD j z3) < 0 ∧ 0 < valP q (l.getD k z3) ∧ valP q (l.getD m z3) < 0)
section
variable {l : List V3} {q : V3 × Rat}
theorem vY {i : Nat} (h : i < l.length) : wq l i = l.getD i z3 := by unfold wq; rw [Nat.mod_eq_of_lt h]
theorem wq_n : wq l l.length = wq l 0 := by unfold wq; rw [Nat.mod_self, Nat.zero_mod]
def vtx (l : List V3) (q : V3 × Rat) (i : Nat) : Nat := if 0 < valP q (wq l i) then i else i + 1
theorem Is (i : Nat) : vtx l q i ≤ i + 1 ∧ i ≤ vtx l q i := by unfold vtx; split <;> omega
theorem wX {i : Nat} {t : Rat} (h : 0 < valP q (plc l i t)) (h0 : 0 ≤ t) (h1 : t < 1) : 0 < valP q (wq l (vtx l q i)) := by
 unfold vtx; split
 ·assumption
 ·rename_i hn
  unfold plc at h; rw [Du] at h
  have := Rat.mul_nonneg (show 0 ≤ 1 - t by grind) (show 0 ≤ -valP q (wq l i) by grind)
  by_cases hb : 0 < valP q (wq l (i + 1))
  ·exact hb
  ·have := Rat.mul_nonneg h0 (show 0 ≤ -valP q (wq l (i + 1)) by grind)
   grind
theorem It {i j : Nat} {t s : Rat} (h : 0 < valP q (plc l i t)) (k : valP q (plc l j s) < 0) (h0 : 0 ≤ t) (h1 : t < 1) (k0 : 0 ≤ s) (k1 : s < 1) (hl : PLt (i, t) (j, s)) : vtx l q i < vtx l (ngQ q) j := by
 have p1 := wX h h0 h1
 have p2 : 0 < valP (ngQ q) (wq l (vtx l (ngQ q) j)) := wX (by rw [ji]; grind) k0 k1
 have a1 := Is (l := l) (q := q) i; have a2 := Is (l := l) (q := ngQ q) j
 have hne : vtx l q i ≠ vtx l (ngQ q) j := fun e => by rw [← e, ji] at p2; grind
 rcases hl with hl | ⟨hl, ht⟩
 ·simp only at hl; omega
 ·simp only at hl ht
  subst hl
  unfold plc at h k; rw [Du] at h k
  generalize hA : valP q (wq l i) = A at *; generalize hB : valP q (wq l (i + 1)) = B at *
  have hd : B < A := by
   rcases Rat.le_total (a := A) (b := B) with e | e
   ·have := Rat.mul_nonneg (show 0 ≤ s - t by grind) (show 0 ≤ B - A by grind); grind
   ·by_cases e2 : A = B
    ·subst e2; grind
    ·grind
  have := Rat.mul_nonneg h0 (show 0 ≤ A - B by grind)
  have hp : 0 < A := by grind
  have e1 : vtx l q i = i := by unfold vtx; rw [hA, if_pos hp]
  omega
theorem ng2 (p : V3) : valP (ngQ (ngQ q)) p = valP q p := by rw [ji, ji]; grind
theorem Tu (i : Nat) : vtx l (ngQ (ngQ q)) i = vtx l q i := by unfold vtx; rw [ng2]
theorem pqc (h : QC l) (q : V3 × Rat) {i1 i2 i3 i4 : Nat} {t1 t2 t3 t4 : Rat} (b1 : 0 ≤ t1 ∧ t1 < 1) (b2 : 0 ≤ t2 ∧ t2 < 1) (b3 : 0 ≤ t3 ∧ t3 < 1) (b4 : 0 ≤ t4 ∧ t4 < 1) (hn : i4 < l.length)
    (h12 : PLt (i1, t1) (i2, t2)) (h23 : PLt (i2, t2) (i3, t3)) (h34 : PLt (i3, t3) (i4, t4)) :
    ¬ (0 < valP q (plc l i1 t1) ∧ valP q (plc l i2 t2) < 0 ∧ 0 < valP q (plc l i3 t3) ∧ valP q (plc l i4 t4) < 0) := by
  rintro ⟨f1, f2, f3, f4⟩
  have v12 := It f1 f2 b1.1 b1.2 b2.1 b2.2 h12
  have v23 := It (q := ngQ q) (l := l) (by rw [ji]; grind) (by rw [ji]; grind) b2.1 b2.2 b3.1 b3.2 h23
  rw [Tu] at v23
  have v34 := It f3 f4 b3.1 b3.2 b4.1 b4.2 h34
  have p1 := wX f1 b1.1 b1.2
  have p2 : 0 < valP (ngQ q) (wq l (vtx l (ngQ q) i2)) := wX (by rw [ji]; grind) b2.1 b2.2
  have p3 := wX f3 b3.1 b3.2
  have p4 : 0 < valP (ngQ q) (wq l (vtx l (ngQ q) i4)) := wX (by rw [ji]; grind) b4.1 b4.2
  have a4 := Is (l := l) (q := ngQ q) i4
  generalize vtx l q i1 = v1 at *; generalize vtx l (ngQ q) i2 = v2 at *; generalize vtx l q i3 = v3 at *; generalize vtx l (ngQ q) i4 = v4 at *
  by_cases hv : v4 < l.length
  · rw [vY (by omega)] at p1 p2 p3 p4
    rw [ji] at p2 p4
    exact h q v1 v2 v3 v4 v12 v23 v34 hv ⟨p1, by grind, p3, by grind⟩
  · have e : v4 = l.length := by omega
    rw [e, wq_n, vY (by omega)] at p4
    have h0 : v1 ≠ 0 := fun e => by subst e; rw [vY (by omega)] at p1; rw [ji] at p4; grind
    rw [vY (by omega)] at p1 p2 p3
    exact h (ngQ q) 0 v1 v2 v3 (by omega) v12 v23 (by omega) ⟨p4, by rw [ji]; grind, p2, by rw [ji]; grind⟩
end
section
variable (h : V3 × Rat) (l : List V3)
def ctQ (i : Nat) : Rat := valP h (wq l i) / (valP h (wq l i) - valP h (wq l (i + 1)))
def posA (i : Nat) : List (Nat × Rat) :=
 (if valP h (wq l i) ≤ 0 then [(i, 0)] else []) ++ (if (valP h (wq l i) < 0 ∧ 0 < valP h (wq l (i + 1))) ∨ (0 < valP h (wq l i) ∧ valP h (wq l (i + 1)) < 0) then [(i, ctQ h l i)] else [])
def posN : Nat → List (Nat × Rat)
 | 0 => []
 | i + 1 => posN i ++ posA h l i
end
section
variable {h : V3 × Rat} {l : List V3}
theorem LF {i : Nat} (hi : i < l.length) : zO h l i = (posA h l i).map fun p => plc l p.1 p.2 := by
 unfold zO posA
 have e1 : l.getD i z3 = wq l i := (vY hi).symm
 have e2 : l.getD ((i + 1) % l.length) z3 = wq l (i + 1) := rfl
 rw [e1, e2]
 simp only [Pr, Ns]
 rw [List.map_append]
 congr 1
 ·split
  ·show [wq l i] = [plc l i 0]; unfold plc; rw [GV]
  ·rfl
 ·split
  ·rfl
  ·rfl
theorem ws : ∀ {i}, i ≤ l.length → qU h l i = (posN h l i).map fun p => plc l p.1 p.2
 | 0, _ => rfl
 | i + 1, hi => by rw [qU, posN, List.map_append, ws (by omega), LF (by omega)]
theorem ct_b {i : Nat} (hc : (valP h (wq l i) < 0 ∧ 0 < valP h (wq l (i + 1))) ∨ (0 < valP h (wq l i) ∧ valP h (wq l (i + 1)) < 0)) : 0 < ctQ h l i ∧ ctQ h l i < 1 ∧ valP h (plc l i (ctQ h l i)) = 0 := by
 unfold plc; rw [Du]; unfold ctQ
 generalize valP h (wq l i) = A at *; generalize valP h (wq l (i + 1)) = B at *
 have e := div_eq (x := A) (y := A - B) (by grind)
 generalize A / (A - B) = t at *
 have h3 : A + t * (B - A) = 0 := by grind
 refine ⟨?_, ?_, h3⟩
 ·rcases Rat.le_total (a := t) (b := 0) with q | q
  ·rcases hc with hc | hc
   ·have := Rat.mul_nonneg (show 0 ≤ -t by grind) (show 0 ≤ B - A by grind); grind
   ·have := Rat.mul_nonneg (show 0 ≤ -t by grind) (show 0 ≤ A - B by grind); grind
  ·by_cases e0 : t = 0
   ·subst e0; grind
   ·grind
 ·rcases Rat.le_total (a := 1) (b := t) with q | q
  ·rcases hc with hc | hc
   ·have := Rat.mul_nonneg (show 0 ≤ t - 1 by grind) (show 0 ≤ B - A by grind); grind
   ·have := Rat.mul_nonneg (show 0 ≤ t - 1 by grind) (show 0 ≤ A - B by grind); grind
  ·by_cases e0 : t = 1
   ·subst e0; grind
   ·grind
theorem I0 {i : Nat} {p : Nat × Rat} (hp : p ∈ posA h l i) : p.1 = i ∧ 0 ≤ p.2 ∧ p.2 < 1 ∧ valP h (plc l p.1 p.2) ≤ 0 := by
 unfold posA at hp
 rcases List.mem_append.1 hp with hp | hp
 ·split at hp
  ·rw [List.mem_singleton.1 hp]
   refine ⟨rfl, Rat.le_refl, by simp only; grind, ?_⟩
   simp only; unfold plc; rw [GV]; assumption
  ·cases hp
 ·split at hp
  ·rename_i hc
   have := ct_b hc
   rw [List.mem_singleton.1 hp]
   exact ⟨rfl, by simp only; grind, this.2.1, by simp only; rw [this.2.2]; exact Rat.le_refl⟩
  ·cases hp
theorem zF {p : Nat × Rat} : ∀ {n}, p ∈ posN h l n → p.1 < n ∧ 0 ≤ p.2 ∧ p.2 < 1 ∧ valP h (plc l p.1 p.2) ≤ 0
 | 0, hp => by cases hp
 | n + 1, hp => by
  rcases List.mem_append.1 hp with hp | hp
  ·have := zF hp; exact ⟨by omega, this.2⟩
  ·have := I0 hp; exact ⟨by omega, this.2⟩
theorem JG : ∀ n, (posN h l n).Pairwise PLt
 | 0 => List.Pairwise.nil
 | n + 1 => by
  rw [posN, List.pairwise_append]
  refine ⟨JG n, ?_, fun a ha b hb => .inl ?_⟩
  ·unfold posA
   split
   ·split
    ·rename_i hc
     have := ct_b hc
     simp only [List.cons_append, List.nil_append, List.pairwise_cons, List.mem_singleton, forall_eq]
     exact ⟨.inr ⟨rfl, this.1⟩, by simp⟩
    ·simp
   ·split <;> simp
  ·rw [(I0 hb).1]; exact (zF ha).1
theorem BA {i : Nat} {f : Nat × Rat → V3} {ps : List (Nat × Rat)} (hi : i < ps.length) : (ps.map f).getD i z3 = f ps[i] := by
 rw [List.getD_eq_getElem?_getD, List.getElem?_map, List.getElem?_eq_getElem hi]; rfl
theorem QC.clip (hq : QC l) : QC (qH h l) := by
 intro q i j k m hij hjk hkm hm
 unfold qH at hm ⊢
 rw [ws (Nat.le_refl _)] at hm ⊢
 rw [List.length_map] at hm
 rw [BA (by omega), BA (by omega), BA (by omega), BA (by omega)]
 have pw := List.pairwise_iff_getElem.1 (JG (h := h) (l := l) l.length)
 have m1 := zF (List.getElem_mem (show i < (posN h l l.length).length by omega))
 have m2 := zF (List.getElem_mem (show j < (posN h l l.length).length by omega))
 have m3 := zF (List.getElem_mem (show k < (posN h l l.length).length by omega))
 have m4 := zF (List.getElem_mem hm)
 exact pqc hq q ⟨m1.2.1, m1.2.2.1⟩ ⟨m2.2.1, m2.2.2.1⟩ ⟨m3.2.1, m3.2.2.1⟩ ⟨m4.2.1, m4.2.2.1⟩ m4.1 (pw i j _ _ hij) (pw j k _ _ hjk) (pw k m _ _ hkm)
theorem QC.tri (a b c : V3) : QC [a, b, c] := fun q i j k m h1 h2 h3 h4 => by simp at h4; omega
end
end
section
def Hl (l : List V3) (x : V3) : Prop := ∀ q : V3 × Rat, (∀ p ∈ l, valP q p ≤ 0) → valP q x ≤ 0
theorem Hl.mem {l : List V3} {x : V3} (h : x ∈ l) : Hl l x := fun q hq => hq x h
theorem Hl.trans {l l' : List V3} {x : V3} (h : Hl l x) (k : ∀ p ∈ l, Hl l' p) : Hl l' x := fun q hq => h q fun p hp => k p hp q hq
section
variable {h : V3 × Rat} {l : List V3}
theorem NE {i : Nat} (hl : 0 < l.length) : wq l i ∈ l := by
 have := Nat.mod_lt i hl
 unfold wq; rw [qM this]; exact List.getElem_mem _
theorem Vt {f : V3 × Rat} {i : Nat} {t : Rat} (hl : 0 < l.length) (hf : ∀ p ∈ l, valP f p ≤ 0) (h0 : 0 ≤ t) (h1 : t < 1) : valP f (plc l i t) ≤ 0 := by
 unfold plc; rw [Du]
 have a := hf _ (NE (i := i) hl); have b := hf _ (NE (i := i + 1) hl)
 have := Rat.mul_nonneg h0 (show 0 ≤ -valP f (wq l (i + 1)) by grind)
 have := Rat.mul_nonneg (show 0 ≤ 1 - t by grind) (show 0 ≤ -valP f (wq l i) by grind)
 grind
theorem Hk {p : V3} (hp : p ∈ qH h l) : ∃ i t, i < l.length ∧ 0 ≤ t ∧ t < 1 ∧ p = plc l i t ∧ valP h p ≤ 0 := by
 unfold qH at hp
 rw [ws (Nat.le_refl _)] at hp
 obtain ⟨a, ha, rfl⟩ := List.mem_map.1 hp
 have := zF ha
 exact ⟨a.1, a.2, this.1, this.2.1, this.2.2.1, rfl, this.2.2.2⟩
theorem Hl.clip_sub {x : V3} (hx : Hl (qH h l) x) : Hl l x ∧ valP h x ≤ 0 := by
 refine ⟨fun f hf => hx f fun p hp => ?_, hx h fun p hp => ?_⟩
 ·obtain ⟨i, t, h1, h2, h3, rfl, _⟩ := Hk hp
  exact Vt (by omega) hf h2 h3
 ·obtain ⟨i, t, h1, h2, h3, _, h4⟩ := Hk hp; exact h4
theorem JF {i : Nat} {p : Nat × Rat} (hp : p ∈ posA h l i) : ∀ {n}, i < n → p ∈ posN h l n
 | n + 1, hn => by
  by_cases e : i = n
  ·subst e; exact List.mem_append_right _ hp
  ·exact List.mem_append_left _ (JF hp (by omega))
theorem Jc {i : Nat} {p : Nat × Rat} (hp : p ∈ posA h l i) (hi : i < l.length) : plc l p.1 p.2 ∈ qH h l := by
 unfold qH
 rw [ws (Nat.le_refl _)]
 exact List.mem_map.2 ⟨p, JF hp hi, rfl⟩
theorem Dk (i : Nat) : plc l i 0 = wq l i := GV _ _
theorem DL {i : Nat} (hi : i < l.length) (hv : valP h (wq l i) ≤ 0) : wq l i ∈ qH h l := by
 have := Jc (h := h) (l := l) (i := i) (p := (i, 0)) (by unfold posA; rw [if_pos hv]; simp) hi
 rwa [Dk] at this
theorem ivt (s : Nat → Rat) {a : Nat} : ∀ {b : Nat}, a < b → s a < 0 → 0 < s b → ∃ k, a ≤ k ∧ k < b ∧ ((s k < 0 ∧ 0 < s (k + 1)) ∨ (a < k ∧ s k = 0))
 | 0, h, _, _ => by omega
 | b + 1, hab, ha, hb => by
  by_cases h1 : s b < 0
  ·exact ⟨b, by omega, by omega, .inl ⟨h1, hb⟩⟩
  ·by_cases h2 : s b = 0
   ·have : a ≠ b := fun e => by subst e; grind
    exact ⟨b, by omega, by omega, .inr ⟨by omega, h2⟩⟩
   ·have : a ≠ b := fun e => by subst e; grind
    obtain ⟨k, k1, k2, k3⟩ := ivt s (b := b) (by omega) ha (by grind)
    exact ⟨k, k1, by omega, k3⟩
theorem zpos {f : V3 × Rat} (hf : ∀ p ∈ qH h l, valP f p ≤ 0) {a b : Nat} (hab : a < b) (hb : b ≤ l.length)
    (hs : (valP h (wq l a) < 0 ∧ 0 < valP h (wq l b)) ∨ (0 < valP h (wq l a) ∧ valP h (wq l b) < 0)) :
    ∃ k t, a ≤ k ∧ k < b ∧ 0 ≤ t ∧ t < 1 ∧ PLt (a, 0) (k, t) ∧ valP h (plc l k t) = 0 ∧ valP f (plc l k t) ≤ 0 := by
  have key : ∃ k, a ≤ k ∧ k < b ∧ (((valP h (wq l k) < 0 ∧ 0 < valP h (wq l (k + 1))) ∨ (0 < valP h (wq l k) ∧ valP h (wq l (k + 1)) < 0)) ∨ (a < k ∧ valP h (wq l k) = 0)) := by
    rcases hs with ⟨h1, h2⟩ | ⟨h1, h2⟩
    · obtain ⟨k, k1, k2, k3⟩ := ivt (fun k => valP h (wq l k)) hab h1 h2
      rcases k3 with k3 | k3
      · exact ⟨k, k1, k2, .inl (.inl k3)⟩
      · exact ⟨k, k1, k2, .inr k3⟩
    · obtain ⟨k, k1, k2, k3⟩ := ivt (fun k => -valP h (wq l k)) hab (show -valP h (wq l a) < 0 by grind) (show 0 < -valP h (wq l b) by grind)
      rcases k3 with k3 | k3
      · exact ⟨k, k1, k2, .inl (.inr ⟨by grind, by grind⟩)⟩
      · exact ⟨k, k1, k2, .inr ⟨k3.1, by grind⟩⟩
  obtain ⟨k, k1, k2, k3⟩ := key
  rcases k3 with k3 | ⟨k3, k4⟩
  · have c := ct_b k3
    refine ⟨k, ctQ h l k, k1, k2, by grind, c.2.1, ?_, c.2.2, hf _ (Jc (p := (k, ctQ h l k)) (by unfold posA; rw [if_pos k3]; simp) (by omega))⟩
    by_cases e : a = k
    · exact .inr ⟨e, c.1⟩
    · exact .inl (show a < k by omega)
  · refine ⟨k, 0, k1, k2, Rat.le_refl, by grind, .inl k3, by rw [Dk]; exact k4, ?_⟩
    rw [Dk]; exact hf _ (DL (by omega) (by rw [k4]; exact Rat.le_refl))
theorem No (hq : QC l) {f : V3 × Rat} (hf : ∀ p ∈ qH h l, valP f p ≤ 0) {a b : Nat} (ha : a < l.length) (hb : b < l.length) (h1 : valP h (wq l a) < 0) (h2 : 0 < valP h (wq l b)) :
    valP f (wq l b) * -valP h (wq l a) + valP f (wq l a) * valP h (wq l b) ≤ 0 := by
  rcases Rat.le_total (a := valP f (wq l b) * -valP h (wq l a) + valP f (wq l a) * valP h (wq l b)) (b := 0) with q | q
  · exact q
  · by_cases q0 : valP f (wq l b) * -valP h (wq l a) + valP f (wq l a) * valP h (wq l b) = 0
    · rw [q0]; exact Rat.le_refl
    · exfalso
      have hD : 0 < valP f (wq l b) * -valP h (wq l a) + valP f (wq l a) * valP h (wq l b) := by grind
      generalize hDD : valP f (wq l b) * -valP h (wq l a) + valP f (wq l a) * valP h (wq l b) = D at *
      -- the function that is positive at both corners and negative where the plane is crossed
      generalize hg : lcQ (2 * (-valP h (wq l a) + valP h (wq l b))) f (2 * (valP f (wq l a) - valP f (wq l b))) h (-D) = g
      have ga : 0 < valP g (wq l a) := by rw [← hg, zz]; grind
      have gb : 0 < valP g (wq l b) := by rw [← hg, zz]; grind
      have gz : ∀ p, valP h p = 0 → valP f p ≤ 0 → valP g p < 0 := fun p p1 p2 => by
        rw [← hg, zz, p1]
        have := Rat.mul_nonneg (show 0 ≤ 2 * (-valP h (wq l a) + valP h (wq l b)) by grind) (show 0 ≤ -valP f p by grind)
        grind
      have z01 : (0 : Rat) ≤ 0 ∧ (0 : Rat) < 1 := ⟨Rat.le_refl, by grind⟩
      have ga0 : 0 < valP g (plc l a 0) := by rw [Dk]; exact ga
      have gb0 : 0 < valP g (plc l b 0) := by rw [Dk]; exact gb
      have alt1 := fun (i1 i2 i3 i4 : Nat) (t1 t2 t3 t4 : Rat) b1 b2 b3 b4 hn h12 h23 h34 => pqc hq g (i1 := i1) (i2 := i2) (i3 := i3) (i4 := i4) (t1 := t1) (t2 := t2) (t3 := t3) (t4 := t4) b1 b2 b3 b4 hn h12 h23 h34
      have alt2 := fun (i1 i2 i3 i4 : Nat) (t1 t2 t3 t4 : Rat) b1 b2 b3 b4 hn h12 h23 h34 => pqc hq (ngQ g) (i1 := i1) (i2 := i2) (i3 := i3) (i4 := i4) (t1 := t1) (t2 := t2) (t3 := t3) (t4 := t4) b1 b2 b3 b4 hn h12 h23 h34
      have ngn : ∀ p, valP g p < 0 → 0 < valP (ngQ g) p := fun p hp => by rw [ji]; grind
      have ngp : ∀ p, 0 < valP g p → valP (ngQ g) p < 0 := fun p hp => by rw [ji]; grind
      have hne : a ≠ b := fun e => by subst e; grind
      have v0 : valP h (wq l 0) < 0 ∨ valP h (wq l 0) = 0 ∨ 0 < valP h (wq l 0) := by grind
      have gz0 : valP h (wq l 0) = 0 → valP g (plc l 0 0) < 0 := fun e => by
        rw [Dk]; exact gz _ e (hf _ (DL (by omega) (by rw [e]; exact Rat.le_refl)))
      rcases Nat.lt_or_gt_of_ne hne with hab | hab
      · obtain ⟨k, t, k1, k2, k3, k4, k5, k6, k7⟩ := zpos hf hab (by omega) (.inl ⟨h1, h2⟩)
        have gx := gz _ k6 k7
        rcases v0 with v | v | v
        · obtain ⟨k', t', m1, m2, m3, m4, m5, m6, m7⟩ := zpos hf hb (Nat.le_refl _) (.inr ⟨h2, by rw [wq_n]; exact v⟩)
          exact alt1 a k b k' 0 t 0 t' z01 ⟨k3, k4⟩ z01 ⟨m3, m4⟩ m2 k5 (.inl k2) m5 ⟨ga0, gx, gb0, gz _ m6 m7⟩
        · have : a ≠ 0 := fun e => by subst e; grind
          exact alt2 0 a k b 0 0 t 0 z01 z01 ⟨k3, k4⟩ z01 hb (.inl (show 0 < a by omega)) k5 (.inl k2) ⟨ngn _ (gz0 v), ngp _ ga0, ngn _ gx, ngp _ gb0⟩
        · have : a ≠ 0 := fun e => by subst e; grind
          obtain ⟨k', t', m1, m2, m3, m4, m5, m6, m7⟩ := zpos hf (show 0 < a by omega) (by omega) (.inr ⟨v, h1⟩)
          exact alt2 k' a k b t' 0 t 0 ⟨m3, m4⟩ z01 ⟨k3, k4⟩ z01 hb (.inl m2) k5 (.inl k2) ⟨ngn _ (gz _ m6 m7), ngp _ ga0, ngn _ gx, ngp _ gb0⟩
      · obtain ⟨k, t, k1, k2, k3, k4, k5, k6, k7⟩ := zpos hf hab (by omega) (.inr ⟨h2, h1⟩)
        have gx := gz _ k6 k7
        rcases v0 with v | v | v
        · have : b ≠ 0 := fun e => by subst e; grind
          obtain ⟨k', t', m1, m2, m3, m4, m5, m6, m7⟩ := zpos hf (show 0 < b by omega) (by omega) (.inl ⟨v, h2⟩)
          exact alt2 k' b k a t' 0 t 0 ⟨m3, m4⟩ z01 ⟨k3, k4⟩ z01 ha (.inl m2) k5 (.inl k2) ⟨ngn _ (gz _ m6 m7), ngp _ gb0, ngn _ gx, ngp _ ga0⟩
        · have : b ≠ 0 := fun e => by subst e; grind
          exact alt2 0 b k a 0 0 t 0 z01 z01 ⟨k3, k4⟩ z01 ha (.inl (show 0 < b by omega)) k5 (.inl k2) ⟨ngn _ (gz0 v), ngp _ gb0, ngn _ gx, ngp _ ga0⟩
        · obtain ⟨k', t', m1, m2, m3, m4, m5, m6, m7⟩ := zpos hf ha (Nat.le_refl _) (.inl ⟨h1, by rw [wq_n]; exact v⟩)
          exact alt1 b k a k' 0 t 0 t' z01 ⟨k3, k4⟩ z01 ⟨m3, m4⟩ m2 k5 (.inl k2) m5 ⟨gb0, gx, ga0, gz _ m6 m7⟩
theorem slope (f : V3 × Rat) : ∀ l' : List V3, ∃ c : Rat, 0 ≤ c ∧ (∀ p ∈ l', 0 < valP h p → valP f p ≤ c * valP h p) ∧ (c = 0 ∨ ∃ o ∈ l', 0 < valP h o ∧ valP f o = c * valP h o)
 | [] => ⟨0, Rat.le_refl, (fun p hp => by cases hp), .inl rfl⟩
 | p :: r => by
  obtain ⟨c, c0, c1, c2⟩ := slope f r
  by_cases hp : 0 < valP h p ∧ c * valP h p < valP f p
  ·have e := div_eq (x := valP f p) (y := valP h p) (by grind)
   generalize valP f p / valP h p = d at e
   have hcd : c ≤ d := by
    rcases Rat.le_total (a := c) (b := d) with q | q
    ·exact q
    ·have := Rat.mul_nonneg (show 0 ≤ c - d by grind) (Rat.le_of_lt hp.1); grind
   refine ⟨d, by grind, fun u hu hv => ?_, .inr ⟨p, List.mem_cons_self, hp.1, by grind⟩⟩
   rcases List.mem_cons.1 hu with rfl | hu
   ·grind
   ·have := c1 u hu hv
    have := Rat.mul_nonneg (show 0 ≤ d - c by grind) (Rat.le_of_lt hv); grind
  ·refine ⟨c, c0, fun u hu hv => ?_, ?_⟩
   ·rcases List.mem_cons.1 hu with rfl | hu
    ·grind
    ·exact c1 u hu hv
   ·rcases c2 with c2 | ⟨o, o1, o2⟩
    ·exact .inl c2
    ·exact .inr ⟨o, List.mem_cons_of_mem _ o1, o2⟩
theorem Mp {p : V3} (hp : p ∈ l) : ∃ i, i < l.length ∧ p = wq l i := by
 obtain ⟨i, hi, e⟩ := List.getElem_of_mem hp
 exact ⟨i, hi, by rw [vY hi, qM hi, e]⟩
theorem Hl.clip_sup (hq : QC l) {x : V3} (hx : Hl l x) (hv : valP h x ≤ 0) : Hl (qH h l) x := by
 intro f hf
 obtain ⟨c, c0, c1, c2⟩ := slope (h := h) f l
 have hall : ∀ p ∈ l, valP (lcQ 1 f (-c) h 0) p ≤ 0 := by
  intro p hp
  rw [zz]
  obtain ⟨i, hi, rfl⟩ := Mp hp
  by_cases h1 : 0 < valP h (wq l i)
  ·have := c1 _ hp h1; grind
  ·have hfi := hf _ (DL hi (by grind))
   rcases c2 with rfl | ⟨o, o1, o2, o3⟩
   ·grind
   ·by_cases h0 : valP h (wq l i) = 0
    ·rw [h0]; grind
    ·obtain ⟨j, hj, rfl⟩ := Mp o1
     have k := No hq hf hi hj (by grind) o2
     rw [o3] at k
     rcases Rat.le_total (a := valP f (wq l i) - c * valP h (wq l i)) (b := 0) with q | q
     ·grind
     ·have h3 := Rat.mul_nonneg q (Rat.le_of_lt o2)
      have h4 : (valP f (wq l i) - c * valP h (wq l i)) * valP h (wq l j) = 0 := by grind
      rcases Rat.mul_eq_zero.1 h4 with h5 | h5 <;> grind
 have := hx _ hall
 rw [zz] at this
 have := Rat.mul_nonneg c0 (show 0 ≤ -valP h x by grind)
 grind
end
end
section
section
variable (h : V3 × Rat) (l : List V3)
def isX (i : Nat) : Prop := (valP h (wq l i) < 0 ∧ 0 < valP h (wq l (i + 1))) ∨ (0 < valP h (wq l i) ∧ valP h (wq l (i + 1)) < 0)
instance (i : Nat) : Decidable (isX h l i) := by unfold isX; infer_instance
def cX : Nat → Nat
 | 0 => 0
 | n + 1 => cX n + if isX h l n then 1 else 0
def cI : Nat → Nat
 | 0 => 0
 | n + 1 => cI n + if valP h (wq l n) ≤ 0 then 1 else 0
end
section
variable {h : V3 × Rat} {l : List V3}
theorem I1 : ∀ n, (posN h l n).length = cI h l n + cX h l n
 | 0 => rfl
 | n + 1 => by
  rw [posN, List.length_append, I1 n, cI, cX]
  have : (posA h l n).length = (if valP h (wq l n) ≤ 0 then 1 else 0) + if isX h l n then 1 else 0 := by
   unfold posA
   rw [List.length_append]
   congr 1
   ·split <;> rfl
   ·by_cases e : isX h l n
    ·exact (congrArg List.length (if_pos e)).trans (if_pos e).symm
    ·exact (congrArg List.length (if_neg e)).trans (if_neg e).symm
  omega
theorem Ki : ∀ n, cI h l n ≤ n
 | 0 => Nat.le_refl 0
 | n + 1 => by have := Ki n; rw [cI]; split <;> omega
theorem PS {i : Nat} (hi : 0 < valP h (wq l i)) : ∀ {n}, i < n → cI h l n + 1 ≤ n
 | n + 1, hn => by
  rw [cI]
  by_cases e : i = n
  ·subst e
   have := Ki (h := h) (l := l) i
   rw [if_neg (by grind)]; omega
  ·have := PS hi (n := n) (by omega)
   split <;> omega
theorem El {m : Nat} : ∀ {n}, m + 1 ≤ cX h l n → ∃ k, k < n ∧ isX h l k ∧ m ≤ cX h l k
 | 0, hn => by simp [cX] at hn
 | n + 1, hn => by
  rw [cX] at hn
  by_cases e : isX h l n
  ·rw [if_pos e] at hn; exact ⟨n, by omega, e, by omega⟩
  ·rw [if_neg e] at hn
   obtain ⟨k, a, b, c⟩ := El (n := n) (by omega)
   exact ⟨k, by omega, b, c⟩
theorem no3 (hq : QC l) {i j k : Nat} (hij : i < j) (hjk : j < k) (hk : k < l.length) (xi : isX h l i) (xj : isX h l j) (xk : isX h l k) : False := by
 have Q : ∀ a b c d, a < b → b < c → c < d → d < l.length → 0 < valP h (wq l a) → valP h (wq l b) < 0 → 0 < valP h (wq l c) → valP h (wq l d) < 0 → False := fun a b c d h1 h2 h3 h4 => by
  rw [vY (by omega), vY (by omega), vY (by omega), vY (by omega)]
  exact fun p1 p2 p3 p4 => hq h a b c d h1 h2 h3 h4 ⟨p1, p2, p3, p4⟩
 have R : ∀ a b c d, a < b → b < c → c < d → d < l.length → valP h (wq l a) < 0 → 0 < valP h (wq l b) → valP h (wq l c) < 0 → 0 < valP h (wq l d) → False := fun a b c d h1 h2 h3 h4 => by
  rw [vY (by omega), vY (by omega), vY (by omega), vY (by omega)]
  exact fun p1 p2 p3 p4 => hq (ngQ h) a b c d h1 h2 h3 h4 ⟨by rw [ji]; grind, by rw [ji]; grind, by rw [ji]; grind, by rw [ji]; grind⟩
 have ne : ∀ a b, valP h (wq l a) < 0 → 0 < valP h (wq l b) → a ≠ b := fun a b p1 p2 e => by subst e; grind
 have nx : k + 1 < l.length ∨ wq l (k + 1) = wq l 0 := by
  by_cases e : k + 1 < l.length
  ·exact .inl e
  ·right; rw [show k + 1 = l.length by omega, wq_n]
 unfold isX at xi xj xk
 rcases xi with ⟨i1, i2⟩ | ⟨i1, i2⟩ <;> rcases xj with ⟨j1, j2⟩ | ⟨j1, j2⟩
 ·have := ne j (i + 1) j1 i2
  exact R i (i + 1) j (j + 1) (by omega) (by omega) (by omega) (by omega) i1 i2 j1 j2
 ·rcases xk with ⟨k1, k2⟩ | ⟨k1, k2⟩
  ·rcases nx with e | e
   ·exact R i j k (k + 1) hij hjk (by omega) e i1 j1 k1 k2
   ·rw [e] at k2
    have := ne i 0 i1 k2
    exact Q 0 i j k (by omega) hij hjk hk k2 i1 j1 k1
  ·have := ne (j + 1) k j2 k1
   rcases nx with e | e
   ·exact Q j (j + 1) k (k + 1) (by omega) (by omega) (by omega) e j1 j2 k1 k2
   ·rw [e] at k2
    exact R 0 j (j + 1) k (by omega) (by omega) (by omega) hk k2 j1 j2 k1
 ·rcases xk with ⟨k1, k2⟩ | ⟨k1, k2⟩
  ·have := ne k (j + 1) k1 j2
   rcases nx with e | e
   ·exact R j (j + 1) k (k + 1) (by omega) (by omega) (by omega) e j1 j2 k1 k2
   ·rw [e] at k2
    exact Q 0 j (j + 1) k (by omega) (by omega) (by omega) hk k2 j1 j2 k1
  ·rcases nx with e | e
   ·exact Q i j k (k + 1) hij hjk (by omega) e i1 j1 k1 k2
   ·rw [e] at k2
    have := ne 0 i k2 i1
    exact R 0 i j k (by omega) hij hjk hk k2 i1 j1 k1
 ·have := ne (i + 1) j i2 j1
  exact Q i (i + 1) j (j + 1) (by omega) (by omega) (by omega) (by omega) i1 i2 j1 j2
theorem QC.len (hq : QC l) : (qH h l).length ≤ l.length + 1 := by
 unfold qH
 rw [ws (Nat.le_refl _), List.length_map, I1]
 have h1 := Ki (h := h) (l := l) l.length
 have h2 : cX h l l.length ≤ 2 := by
  apply Nat.le_of_not_lt; intro h3
  obtain ⟨k, k1, k2, k3⟩ := El (m := 2) h3
  obtain ⟨j, j1, j2, j3⟩ := El (m := 1) k3
  obtain ⟨i, i1, i2, _⟩ := El (m := 0) j3
  exact no3 hq i1 j1 k1 i2 j2 k2
 rcases Nat.eq_zero_or_pos (cX h l l.length) with e | e
 ·omega
 ·obtain ⟨k, k1, k2, _⟩ := El (m := 0) e
  have : ∃ i, i < l.length ∧ 0 < valP h (wq l i) := by
   rcases k2 with ⟨a, b⟩ | ⟨a, b⟩
   ·by_cases e : k + 1 < l.length
    ·exact ⟨k + 1, e, b⟩
    ·exact ⟨0, by omega, by rw [← wq_n, show l.length = k + 1 by omega]; exact b⟩
   ·exact ⟨k, k1, a⟩
  obtain ⟨i, i1, i2⟩ := this
  have := PS i2 i1
  omega
end
theorem wT (q : V3 × Rat) (p : V3) : valP (oppP q) p = -valP q p := by
 obtain ⟨⟨a1, a2, a3⟩, a4⟩ := q; obtain ⟨p1, p2, p3⟩ := p
 have e : ((-1 : Int) : Rat) = -1 := rfl
 simp only [valP, oppP, qh, dotQ, e]; grind
def lsT (t : T3) : List V3 := [t.1, t.2.1, t.2.2]
def inT (t : T3) (x : V3) : Prop := valP (qd t) x = 0 ∧ valP (upP (qd t) t.1 t.2.1) x ≤ 0 ∧ valP (upP (qd t) t.2.1 t.2.2) x ≤ 0 ∧ valP (upP (qd t) t.2.2 t.1) x ≤ 0
theorem Cp {N a b p : V3} {d : Rat} : ¬ jS N a b p ↔ valP (upP (N, d) a b) p ≤ 0 := by unfold jS valP upP; grind
theorem Jg {x y : V3} (h : d2 x y = 0) : x = y := by
 have e := vG h
 obtain ⟨x1, x2, x3⟩ := x; obtain ⟨y1, y2, y3⟩ := y
 simp only [subV, Prod.mk.injEq] at e ⊢
 exact ⟨by grind, by grind, by grind⟩
theorem HA {t : T3} {x : V3} (hN : qy t ≠ (0, 0, 0)) (hx : inT t x) : ∃ u v : Rat, 0 ≤ u ∧ 0 ≤ v ∧ u + v ≤ 1 ∧ x = addV t.1 (addV (qh u (subV t.2.1 t.1)) (qh v (subV t.2.2 t.1))) := by
 obtain ⟨h0, h1, h2, h3⟩ := hx
 have f0 := Cp.2 h1; have f1 := Cp.2 h2; have f2 := Cp.2 h3
 unfold qy at f0 f1 f2
 rw [M6, tri1] at f0; rw [M7, tri1, tri2, lagr] at f1; rw [M8, tri2] at f2
 have hK := lagr (subV t.2.1 t.1) (subV t.2.2 t.1)
 have hK0 : 0 < dotQ (qy t) (qy t) := by
  have a := vi (qy t); have b : dotQ (qy t) (qy t) ≠ 0 := fun e => hN (vG e); grind
 have hd : dotQ (qb (subV t.2.1 t.1) (subV t.2.2 t.1)) (subV x t.1) = 0 := by rw [zK]; exact h0
 have hG := gramd (subV t.2.1 t.1) (subV t.2.2 t.1) (subV x t.1)
 rw [hd] at hG
 unfold qy at hK0
 rw [hK] at hK0
 have hz : ∀ u v : Rat, d2 x (addV t.1 (addV (qh u (subV t.2.1 t.1)) (qh v (subV t.2.2 t.1)))) = 0 → x = addV t.1 (addV (qh u (subV t.2.1 t.1)) (qh v (subV t.2.2 t.1))) := fun u v e => by
  exact Jg e
 simp only [KQ] at hz
 generalize dotQ (subV x t.1) (subV t.2.1 t.1) = a at *; generalize dotQ (subV x t.1) (subV t.2.2 t.1) = b at *; generalize dotQ (subV x t.1) (subV x t.1) = c at *
 generalize dotQ (subV t.2.1 t.1) (subV t.2.1 t.1) = E at *; generalize dotQ (subV t.2.1 t.1) (subV t.2.2 t.1) = F at *; generalize dotQ (subV t.2.2 t.1) (subV t.2.2 t.1) = G at *
 have eA := div_eq (x := G * a - F * b) (show E * G - F * F ≠ 0 by grind)
 have eB := div_eq (x := E * b - F * a) (show E * G - F * F ≠ 0 by grind)
 have hid := ET (c := c) (a := a) (b := b) (E := E) (F := F) (G := G) ((G * a - F * b) / (E * G - F * F)) ((E * b - F * a) / (E * G - F * F)) rfl rfl
 have nA : 0 ≤ (G * a - F * b) / (E * G - F * F) := zw (by grind) hK0
 have nB : 0 ≤ (E * b - F * a) / (E * G - F * F) := zw (by grind) hK0
 generalize (G * a - F * b) / (E * G - F * F) = A at *; generalize (E * b - F * a) / (E * G - F * F) = B at *
 refine ⟨A, B, nA, nB, ?_, hz A B ?_⟩
 ·have := zR (x := 1 - (A + B)) hK0 (by grind)
  grind
 ·generalize hKK : E * G - F * F = K at *
  have h9 : K * (K * phi E F G a b c A B) = 0 := by grind
  rcases Rat.mul_eq_zero.1 h9 with h9 | h9
  ·grind
  ·rcases Rat.mul_eq_zero.1 h9 with h9 | h9 <;> grind
theorem Pq (q : V3 × Rat) (a b c : V3) (u v : Rat) : valP q (addV a (addV (qh u (subV b a)) (qh v (subV c a)))) = (1 - u - v) * valP q a + u * valP q b + v * valP q c := by
 obtain ⟨⟨q1, q2, q3⟩, q4⟩ := q; obtain ⟨a1, a2, a3⟩ := a; obtain ⟨b1, b2, b3⟩ := b; obtain ⟨c1, c2, c3⟩ := c
 simp only [valP, addV, qh, subV, dotQ]; grind
theorem up_a (q : V3 × Rat) (a b : V3) : valP (upP q a b) a = 0 := by unfold valP upP; grind
theorem Ld (q : V3 × Rat) (a b : V3) : valP (upP q a b) b = 0 := by
 obtain ⟨⟨q1, q2, q3⟩, q4⟩ := q; obtain ⟨a1, a2, a3⟩ := a; obtain ⟨b1, b2, b3⟩ := b
 simp only [valP, upP, qb, subV, dotQ]; grind
theorem up_c (a b c : V3) (d : Rat) : valP (upP (qb (subV b a) (subV c a), d) a b) c = -dotQ (qb (subV b a) (subV c a)) (qb (subV b a) (subV c a)) := by
 obtain ⟨a1, a2, a3⟩ := a; obtain ⟨b1, b2, b3⟩ := b; obtain ⟨c1, c2, c3⟩ := c
 simp only [valP, upP, qb, subV, dotQ]; grind
theorem XS (a b c : V3) (d : Rat) : valP (upP (qb (subV b a) (subV c a), d) b c) a = -dotQ (qb (subV b a) (subV c a)) (qb (subV b a) (subV c a)) := by
 obtain ⟨a1, a2, a3⟩ := a; obtain ⟨b1, b2, b3⟩ := b; obtain ⟨c1, c2, c3⟩ := c
 simp only [valP, upP, qb, subV, dotQ]; grind
theorem XT (a b c : V3) (d : Rat) : valP (upP (qb (subV b a) (subV c a), d) c a) b = -dotQ (qb (subV b a) (subV c a)) (qb (subV b a) (subV c a)) := by
 obtain ⟨a1, a2, a3⟩ := a; obtain ⟨b1, b2, b3⟩ := b; obtain ⟨c1, c2, c3⟩ := c
 simp only [valP, upP, qb, subV, dotQ]; grind
theorem pl_0 (a b c : V3) : valP (qd (a, b, c)) a = 0 ∧ valP (qd (a, b, c)) b = 0 ∧ valP (qd (a, b, c)) c = 0 := by
 obtain ⟨a1, a2, a3⟩ := a; obtain ⟨b1, b2, b3⟩ := b; obtain ⟨c1, c2, c3⟩ := c
 simp only [valP, qd, qy, qb, subV, dotQ]; grind
theorem Jp {t : T3} {x : V3} (hN : qy t ≠ (0, 0, 0)) : inT t x ↔ Hl (lsT t) x := by
 constructor
 ·intro h
  obtain ⟨u, v, hu, hv, h1, rfl⟩ := HA hN h
  intro q hq
  rw [Pq]
  have a := hq t.1 (by simp [lsT]); have b := hq t.2.1 (by simp [lsT]); have c := hq t.2.2 (by simp [lsT])
  have := Rat.mul_nonneg (show 0 ≤ 1 - u - v by grind) (show 0 ≤ -valP q t.1 by grind)
  have := Rat.mul_nonneg hu (show 0 ≤ -valP q t.2.1 by grind)
  have := Rat.mul_nonneg hv (show 0 ≤ -valP q t.2.2 by grind)
  grind
 ·intro h
  obtain ⟨a, b, c⟩ := t
  have K := vi (qb (subV b a) (subV c a))
  have p := pl_0 a b c
  have all : ∀ q : V3 × Rat, valP q a ≤ 0 → valP q b ≤ 0 → valP q c ≤ 0 → valP q x ≤ 0 := fun q h1 h2 h3 => h q fun y hy => by
   simp only [lsT, List.mem_cons, List.not_mem_nil, or_false] at hy
   rcases hy with rfl | rfl | rfl <;> assumption
  refine ⟨?_, all _ ?_ ?_ ?_, all _ ?_ ?_ ?_, all _ ?_ ?_ ?_⟩
  ·have h1 := all (qd (a, b, c)) (by grind) (by grind) (by grind)
   have h2 := all (oppP (qd (a, b, c))) (by rw [wT]; grind) (by rw [wT]; grind) (by rw [wT]; grind)
   rw [wT] at h2; grind
  ·rw [up_a]; exact Rat.le_refl
  ·rw [Ld]; exact Rat.le_refl
  ·show valP (upP (qb (subV b a) (subV c a), _) a b) c ≤ 0; rw [up_c]; grind
  ·show valP (upP (qb (subV b a) (subV c a), _) b c) a ≤ 0; rw [XS]; grind
  ·rw [up_a]; exact Rat.le_refl
  ·rw [Ld]; exact Rat.le_refl
  ·rw [Ld]; exact Rat.le_refl
  ·show valP (upP (qb (subV b a) (subV c a), _) c a) b ≤ 0; rw [XT]; grind
  ·rw [up_a]; exact Rat.le_refl
theorem zC (a b : T3) : QC (qa a b) ∧ (qa a b).length ≤ 8 := by
 have q0 := QC.tri a.1 a.2.1 a.2.2
 have l1 := q0.len (h := qd b)
 have q1 := q0.clip (h := qd b)
 have l2 := q1.len (h := oppP (qd b))
 have q2 := q1.clip (h := oppP (qd b))
 have l3 := q2.len (h := upP (qd b) b.1 b.2.1)
 have q3 := q2.clip (h := upP (qd b) b.1 b.2.1)
 have l4 := q3.len (h := upP (qd b) b.2.1 b.2.2)
 have q4 := q3.clip (h := upP (qd b) b.2.1 b.2.2)
 have l5 := q4.len (h := upP (qd b) b.2.2 b.1)
 refine ⟨q4.clip, ?_⟩
 unfold qa
 simp only [List.length_cons, List.length_nil] at l1
 omega
theorem DK {a b : T3} (hb : qy b ≠ (0, 0, 0)) {x : V3} : Hl (qa a b) x ↔ Hl (lsT a) x ∧ Hl (lsT b) x := by
 rw [← Jp hb]
 have q0 := QC.tri a.1 a.2.1 a.2.2
 have q1 := q0.clip (h := qd b)
 have q2 := q1.clip (h := oppP (qd b))
 have q3 := q2.clip (h := upP (qd b) b.1 b.2.1)
 have q4 := q3.clip (h := upP (qd b) b.2.1 b.2.2)
 constructor
 ·intro h
  obtain ⟨h, s3⟩ := h.clip_sub
  obtain ⟨h, s2⟩ := h.clip_sub
  obtain ⟨h, s1⟩ := h.clip_sub
  obtain ⟨h, o⟩ := h.clip_sub
  obtain ⟨h, p⟩ := h.clip_sub
  rw [wT] at o
  exact ⟨h, by grind, s1, s2, s3⟩
 ·rintro ⟨h, p, s1, s2, s3⟩
  have h1 := Hl.clip_sup q0 (h := qd b) h (by grind)
  have h2 := Hl.clip_sup q1 (h := oppP (qd b)) h1 (by rw [wT]; grind)
  have h3 := Hl.clip_sup q2 h2 s1
  have h4 := Hl.clip_sup q3 h3 s2
  exact Hl.clip_sup q4 h4 s3
end
def Srt (l : List V3) : Prop := l.Pairwise fun p q => cpV p q < 0
theorem Ho {p q r : V3} (h : cpV p q < 0) (k : cpV q r < 0) : cpV p r < 0 := by rw [Ck] at *; grind
theorem D1 {p : V3} : ¬ cpV p p < 0 := by rw [Ck]; grind
theorem Je {p q : V3} (h : ¬ cpV p q < 0) (n : p ≠ q) : cpV q p < 0 := by
 rw [Ck] at *; rw [ne_eq, vq] at n; grind
theorem U3 {p q r : V3} (h : ¬ cpV q p < 0) (k : ¬ cpV r q < 0) : ¬ cpV r p < 0 := by rw [Ck] at *; grind
theorem G5 : ∀ {l m : List V3}, Srt l → Srt m → (∀ x, x ∈ l ↔ x ∈ m) → l = m
 | [], [], _, _, _ => rfl
 | [], b :: m, _, _, h => by have := (h b).2 List.mem_cons_self; cases this
 | a :: l, [], _, _, h => by have := (h a).1 List.mem_cons_self; cases this
 | a :: l, b :: m, hl, hm, h => by
  obtain ⟨h1, h2⟩ := List.pairwise_cons.1 hl
  obtain ⟨k1, k2⟩ := List.pairwise_cons.1 hm
  have e : a = b := by
   rcases List.mem_cons.1 ((h a).1 List.mem_cons_self) with e | e
   ·exact e
   ·rcases List.mem_cons.1 ((h b).2 List.mem_cons_self) with e2 | e2
    ·exact e2.symm
    ·exact absurd (Ho (h1 b e2) (k1 a e)) D1
  subst e
  have : l = m := G5 h2 k2 fun x => by
   constructor
   ·intro hx
    rcases List.mem_cons.1 ((h x).1 (List.mem_cons_of_mem _ hx)) with e | e
    ·subst e; exact absurd (h1 x hx) D1
    ·exact e
   ·intro hx
    rcases List.mem_cons.1 ((h x).2 (List.mem_cons_of_mem _ hx)) with e | e
    ·subst e; exact absurd (k1 x hx) D1
    ·exact e
  rw [this]
theorem JH {x : V3} {p : List V3} : ∀ {n k}, posR z3 cpV x p n ≤ k → k < n → cpV x (p.getD k z3) < 0
 | 0, k, _, h => absurd h (Nat.not_lt_zero _)
 | n + 1, k, h, hk => by
  unfold posR at h; split at h
  ·rename_i hc
   by_cases e : k = n
   ·subst e; exact hc
   ·exact JH h (by omega)
  ·omega
theorem JJ {x : V3} {p : List V3} : ∀ {n}, 0 < posR z3 cpV x p n → ¬ cpV x (p.getD (posR z3 cpV x p n - 1) z3) < 0
 | 0, h => absurd h (Nat.lt_irrefl _)
 | n + 1, h => by
  unfold posR at h ⊢; split
  ·rename_i hc; rw [if_pos hc] at h; exact JJ h
  ·rename_i hc; exact hc
theorem Jq {R : V3 → V3 → Prop} (tr : ∀ {p q r}, R p q → R q r → R p r) {x : V3} {p : List V3} (hp : p.Pairwise R) (h1 : ∀ y ∈ p, cpV x y < 0 → R x y) (h2 : ∀ y ∈ p, ¬ cpV x y < 0 → R y x) : (insR z3 cpV x p).Pairwise R := by
 have hr := FM z3 cpV x p p.length
 have hhi := fun k => JH (x := x) (p := p) (n := p.length) (k := k)
 have hlo := JJ (x := x) (p := p) (n := p.length)
 unfold insR
 generalize posR z3 cpV x p p.length = r at *
 have hs := hp
 rw [← List.take_append_drop r p, List.pairwise_append] at hs
 obtain ⟨s1, s2, s3⟩ := hs
 have up : ∀ y ∈ p.drop r, R x y := fun y hy => by
  obtain ⟨k, hk, e⟩ := List.getElem_of_mem hy
  rw [List.getElem_drop] at e
  rw [List.length_drop] at hk
  refine h1 y (List.mem_of_mem_drop hy) ?_
  have := hhi (r + k) (by omega) (by omega)
  rw [qM (by omega), e] at this; exact this
 have lo : ∀ y ∈ p.take r, R y x := fun y hy => by
  obtain ⟨k, hk, e⟩ := List.getElem_of_mem hy
  rw [List.length_take] at hk
  rw [List.getElem_take] at e
  have h0 := hlo (by omega)
  rw [qM (by omega)] at h0
  have hl := h2 _ (List.getElem_mem (l := p) (n := r - 1) (by omega)) h0
  by_cases e2 : k = r - 1
  ·subst e2; rw [e] at hl; exact hl
  ·exact tr (e ▸ List.pairwise_iff_getElem.1 hp k (r - 1) (by omega) (by omega) (by omega)) hl
 rw [List.pairwise_append, List.pairwise_cons]
 refine ⟨s1, ⟨up, s2⟩, fun a ha b hb => ?_⟩
 rcases List.mem_cons.1 hb with rfl | hb
 ·exact lo a ha
 ·exact s3 a ha b hb
def Wrt (l : List V3) : Prop := l.Pairwise fun p q => ¬ cpV q p < 0
theorem G2 {l : List V3} : ∀ n, Wrt (jH z3 cpV l n)
 | 0 => List.Pairwise.nil
 | n + 1 => Jq (R := fun p q => ¬ cpV q p < 0) (fun a b => U3 a b) (G2 n) (fun y _ h k => absurd (Ho h k) D1) (fun y _ h => h)
theorem Im {l : List V3} (hw : Wrt l) : ∀ n, n ≤ l.length → Srt (unqN z3 eqV l n) ∧ (∀ x, x ∈ unqN z3 eqV l n ↔ x ∈ l.take n)
 | 0, _ => ⟨List.Pairwise.nil, fun x => by simp [unqN]⟩
 | n + 1, hn => by
  obtain ⟨h1, h2⟩ := Im hw n (by omega)
  rw [unqN, jB (d := z3) (by omega)]
  split
  ·rename_i hc
   refine ⟨?_, fun x => by rw [List.mem_append, List.mem_append, h2]⟩
   unfold Srt
   rw [List.pairwise_append]
   refine ⟨h1, List.pairwise_singleton _ _, fun a ha b hb => ?_⟩
   rw [List.mem_singleton.1 hb]
   have ha := (h2 a).1 ha
   obtain ⟨k, hk, e⟩ := List.getElem_of_mem ha
   rw [List.length_take] at hk
   rw [List.getElem_take] at e
   rcases hc with hc | hc
   ·omega
   ·have hne : l.getD n z3 ≠ l.getD (n - 1) z3 := fun e => hc (decide_eq_true e)
    rw [qM (by omega), qM (by omega)] at hne
    rw [qM (by omega)]
    have w := List.pairwise_iff_getElem.1 hw
    have l1 : cpV l[n - 1] l[n] < 0 := Je (w (n - 1) n (by omega) (by omega) (by omega)) hne
    by_cases e2 : k = n - 1
    ·subst e2; rw [← e]; exact l1
    ·have l2 := w k (n - 1) (by omega) (by omega) (by omega)
     rw [e] at l2
     rw [Ck] at *; grind
  ·rename_i hc
   refine ⟨h1, fun x => ?_⟩
   rw [h2, List.mem_append, List.mem_singleton]
   constructor
   ·exact .inl
   ·rintro (h | h)
    ·exact h
    ·have hc2 : ¬ n = 0 ∧ l.getD n z3 = l.getD (n - 1) z3 := by
      refine ⟨fun e => hc (.inl e), ?_⟩
      by_cases e : l.getD n z3 = l.getD (n - 1) z3
      ·exact e
      ·exact absurd (.inr (fun h => e (of_decide_eq_true h))) hc
     rw [h, hc2.2, qM (by omega), List.mem_iff_getElem]
     exact ⟨n - 1, by rw [List.length_take]; omega, by rw [List.getElem_take]⟩
theorem T6 (l : List V3) : Srt (qj l) := (Im (G2 _) _ (Nat.le_refl _)).1
theorem Gz {l : List V3} {x : V3} : x ∈ qj l ↔ x ∈ l := by
 have := (Im (G2 (l := l) l.length) _ (Nat.le_refl _)).2 x
 rw [List.take_length] at this
 exact this.trans (CM z3 cpV)
theorem HK {l : List V3} {p : V3} {i : Nat} : ∀ {m}, mid1 l p i m = true ↔ ∃ j, j < m ∧ insQ (l.getD i z3) ((l.drop (i + 1)).getD j z3) p
 | 0 => by simp [mid1]
 | m + 1 => by
  rw [mid1, Bool.or_eq_true, HK, decide_eq_true_iff]
  constructor
  ·rintro (⟨j, a, b⟩ | h)
   ·exact ⟨j, by omega, b⟩
   ·exact ⟨m, by omega, h⟩
  ·rintro ⟨j, a, b⟩
   by_cases e : j = m
   ·subst e; exact .inr b
   ·exact .inl ⟨j, by omega, b⟩
theorem HL {l : List V3} {p : V3} : ∀ {n}, mid2 l p n = true ↔ ∃ i, i < n ∧ ∃ j, j < (l.drop (i + 1)).length ∧ insQ (l.getD i z3) ((l.drop (i + 1)).getD j z3) p
 | 0 => by simp [mid2]
 | n + 1 => by
  rw [mid2, Bool.or_eq_true, HL, HK]
  constructor
  ·rintro (⟨i, a, b⟩ | h)
   ·exact ⟨i, by omega, b⟩
   ·exact ⟨n, by omega, h⟩
  ·rintro ⟨i, a, b⟩
   by_cases e : i = n
   ·subst e; exact .inr b
   ·exact .inl ⟨i, by omega, b⟩
theorem Rp {a b p : V3} (h : insQ a b p) : insQ b a p := by
 obtain ⟨a1, a2, a3⟩ := a; obtain ⟨b1, b2, b3⟩ := b; obtain ⟨p1, p2, p3⟩ := p
 unfold insQ at *
 simp only [qb, subV, dotQ, Prod.mk.injEq] at *
 grind
theorem UA {a p : V3} : ¬ insQ a a p := fun h => by have h := h.2; have := vi (subV a p); grind
theorem RK {l : List V3} {p : V3} : mid2 l p l.length = true ↔ ∃ a, a ∈ l ∧ ∃ b, b ∈ l ∧ insQ a b p := by
 rw [HL]
 constructor
 ·rintro ⟨i, hi, j, hj, h⟩
  rw [qM hi, qM hj] at h
  exact ⟨_, List.getElem_mem hi, _, List.mem_of_mem_drop (List.getElem_mem hj), h⟩
 ·rintro ⟨a, ha, b, hb, h⟩
  obtain ⟨i, hi, e⟩ := List.getElem_of_mem ha
  obtain ⟨j, hj, e2⟩ := List.getElem_of_mem hb
  have key : ∀ i j (hi : i < l.length) (hj : j < l.length), i < j → insQ l[i] l[j] p → ∃ i, i < l.length ∧ ∃ j, j < (l.drop (i + 1)).length ∧ insQ (l.getD i z3) ((l.drop (i + 1)).getD j z3) p := fun i j hi hj hij h => by
   refine ⟨i, hi, j - (i + 1), by rw [List.length_drop]; omega, ?_⟩
   rw [qM hi, qM (by rw [List.length_drop]; omega), List.getElem_drop]
   have e : i + 1 + (j - (i + 1)) = j := by omega
   simp only [e]; exact h
  subst e e2
  rcases Nat.lt_trichotomy i j with c | c | c
  ·exact key i j hi hj c h
  ·subst c; exact absurd h UA
  ·exact key j i hj hi c (Rp h)
theorem Cg {l : List V3} : ∀ n, n ≤ l.length → (js l n).Sublist (l.take n)
 | 0, _ => by simp [js]
 | n + 1, hn => by
  rw [js, jB (d := z3) (by omega)]
  split
  ·exact (Cg n (by omega)).trans (List.sublist_append_left _ _)
  ·exact (Cg n (by omega)).append (List.Sublist.refl _)
theorem Cd {l : List V3} {x : V3} : ∀ {n}, n ≤ l.length → (x ∈ js l n ↔ x ∈ l.take n ∧ ¬ mid2 l x l.length = true)
 | 0, _ => by simp [js]
 | n + 1, hn => by
  rw [js, jB (d := z3) (by omega), List.mem_append, List.mem_singleton]
  split
  ·rename_i hc
   rw [Cd (by omega)]
   constructor
   ·rintro ⟨a, b⟩; exact ⟨.inl a, b⟩
   ·rintro ⟨a | a, b⟩
    ·exact ⟨a, b⟩
    ·subst a; exact absurd hc b
  ·rename_i hc
   rw [List.mem_append, List.mem_singleton, Cd (by omega)]
   constructor
   ·rintro (⟨a, b⟩ | a)
    ·exact ⟨.inl a, b⟩
    ·subst a; exact ⟨.inr rfl, hc⟩
   ·rintro ⟨a | a, b⟩
    ·exact .inl ⟨a, b⟩
    ·exact .inr a
theorem Fu (l : List V3) : Srt (zk l) := by
 have := Cg (l := qj l) _ (Nat.le_refl _)
 rw [List.take_length] at this
 exact (T6 l).sublist this
def Cor (l : List V3) (x : V3) : Prop := x ∈ l ∧ ∀ a ∈ l, ∀ b ∈ l, ¬ insQ a b x
theorem Ch {l : List V3} {x : V3} : x ∈ zk l ↔ Cor l x := by
 unfold zk
 rw [Cd (Nat.le_refl _), List.take_length, RK, Gz]
 unfold Cor
 simp only [Gz]
 constructor
 ·rintro ⟨a, b⟩; exact ⟨a, fun u hu v hv h => b ⟨u, hu, v, hv, h⟩⟩
 ·rintro ⟨a, b⟩; exact ⟨a, fun ⟨u, hu, v, hv, h⟩ => b u hu v hv h⟩
def Kp (l : List V3) (i j : Nat) : Prop := (j < i → l.getD i z3 ≠ l.getD j z3) ∧ ∀ k, k < l.length → ¬ insQ (l.getD j z3) (l.getD k z3) (l.getD i z3)
noncomputable def rcN (l : List V3) : Nat → List V3
 | 0 => []
 | i + 1 => open Classical in if ∀ j, j < l.length → Kp l i j then insR z3 cpV (l.getD i z3) (rcN l i) else rcN l i
theorem Qa {l : List V3} : ∀ {n}, n ≤ l.length → Srt (rcN l n) ∧ ∀ x, x ∈ rcN l n ↔ x ∈ l.take n ∧ ∀ a ∈ l, ∀ b ∈ l, ¬ insQ a b x
 | 0, _ => ⟨List.Pairwise.nil, fun x => by simp [rcN]⟩
 | n + 1, hn => by
  obtain ⟨h1, h2⟩ := Qa (l := l) (n := n) (by omega)
  rw [rcN, jB (d := z3) (by omega)]
  have hT : ∀ {y}, y ∈ l.take n ↔ ∃ j, j < n ∧ y = l.getD j z3 := fun {y} => by
   rw [List.mem_iff_getElem]
   constructor
   ·rintro ⟨j, hj, e⟩
    rw [List.length_take] at hj
    rw [List.getElem_take] at e
    exact ⟨j, by omega, by rw [qM (by omega), e]⟩
   ·rintro ⟨j, hj, e⟩
    exact ⟨j, by rw [List.length_take]; omega, by rw [List.getElem_take, e, qM]⟩
  have hI : (∀ j, j < l.length → ∀ k, k < l.length → ¬ insQ (l.getD j z3) (l.getD k z3) (l.getD n z3)) ↔ ∀ a ∈ l, ∀ b ∈ l, ¬ insQ a b (l.getD n z3) := by
   constructor
   ·intro h a ha b hb
    obtain ⟨i, hi, e⟩ := List.getElem_of_mem ha
    obtain ⟨j, hj, e2⟩ := List.getElem_of_mem hb
    have := h i hi j hj
    rw [qM hi, qM hj, e, e2] at this; exact this
   ·intro h j hj k hk
    rw [qM hj, qM hk]; exact h _ (List.getElem_mem hj) _ (List.getElem_mem hk)
  split
  ·rename_i hc
   have hI := hI.1 fun j hj => (hc j hj).2
   have hN : ∀ y ∈ rcN l n, l.getD n z3 ≠ y := fun y hy e => by
    obtain ⟨j, hj, e2⟩ := hT.1 ((h2 y).1 hy).1
    exact (hc j (by omega)).1 hj (e.trans e2)
   refine ⟨Jq (R := fun p q => cpV p q < 0) (fun a b => Ho a b) h1 (fun y _ h => h) (fun y hy h => Je h (hN y hy)), fun x => ?_⟩
   rw [HD, h2, List.mem_append, List.mem_singleton]
   constructor
   ·rintro (h | h)
    ·subst h; exact ⟨.inr rfl, hI⟩
    ·exact ⟨.inl h.1, h.2⟩
   ·rintro ⟨h | h, k⟩
    ·exact .inr ⟨h, k⟩
    ·exact .inl h
  ·rename_i hc
   refine ⟨h1, fun x => ?_⟩
   rw [h2, List.mem_append, List.mem_singleton]
   constructor
   ·rintro ⟨a, b⟩; exact ⟨.inl a, b⟩
   ·rintro ⟨a | a, b⟩
    ·exact ⟨a, b⟩
    ·subst a
     refine ⟨?_, b⟩
     by_cases e : ∃ j, j < n ∧ l.getD n z3 = l.getD j z3
     ·exact hT.2 e
     ·exact absurd (fun j hj => ⟨fun hj e2 => e ⟨j, hj, e2⟩, hI.2 b j hj⟩) hc
theorem Vy (l : List V3) : rcN l l.length = zk l := by
 have h := Qa (l := l) (Nat.le_refl _)
 exact G5 h.1 (Fu l) fun x => by rw [h.2, Ch, List.take_length]; rfl
theorem Ib {n v a b x : V3} (hx : 0 < dotQ n (subV x v)) (ha : dotQ n (subV a v) ≤ 0) (hb : dotQ n (subV b v) ≤ 0) : ∃ f : V3 × Rat, 0 < valP f x ∧ valP f a < 0 ∧ valP f b < 0 := by
 refine ⟨(n, dotQ n v + dotQ n (subV x v) / 2), ?_, ?_, ?_⟩ <;> unfold valP <;> rw [zK] at * <;> grind
theorem SN {a b x : V3} (na : x ≠ a) (nb : x ≠ b) (hi : ¬ insQ a b x) : ∃ f : V3 × Rat, 0 < valP f x ∧ valP f a < 0 ∧ valP f b < 0 := by
 have pos : ∀ u v : V3, u ≠ v → 0 < dotQ (subV u v) (subV u v) := fun u v h => by
  have h1 := vi (subV u v)
  have h2 : dotQ (subV u v) (subV u v) ≠ 0 := fun e => h (Jg e)
  grind
 have self : ∀ n u : V3, dotQ n (subV u u) = 0 := fun n u => by rw [zK]; grind
 by_cases h1 : dotQ (subV x a) (subV b a) ≤ 0
 ·exact Ib (n := subV x a) (v := a) (pos x a na) (by rw [self]; exact Rat.le_refl) h1
 ·by_cases h2 : dotQ (subV x b) (subV a b) ≤ 0
  ·exact Ib (n := subV x b) (v := b) (pos x b nb) h2 (by rw [self]; exact Rat.le_refl)
  ·have hab : a ≠ b := fun e => by subst e; rw [self] at h1; grind
   have hD := pos b a (Ne.symm hab)
   have hdot : ∀ c d : Rat, ∀ u v w : V3, dotQ (subV (qh c u) (qh d v)) w = c * dotQ u w - d * dotQ v w := fun c d u v w => by
    obtain ⟨u1, u2, u3⟩ := u; obtain ⟨v1, v2, v3⟩ := v; obtain ⟨w1, w2, w3⟩ := w
    simp only [dotQ, subV, qh]; grind
   have lg := lagr (subV b a) (subV x a)
   have cn := vi (qb (subV b a) (subV x a))
   have cm : dotQ (subV b a) (subV x a) = dotQ (subV x a) (subV b a) := by simp only [dotQ]; grind
   have e1 : dotQ (subV x b) (subV a b) = dotQ (subV b a) (subV b a) - dotQ (subV x a) (subV b a) := by
    obtain ⟨a1, a2, a3⟩ := a; obtain ⟨b1, b2, b3⟩ := b; obtain ⟨x1, x2, x3⟩ := x
    simp only [dotQ, subV]; grind
   have e2 : dotQ (subV a x) (subV b x) = dotQ (subV x a) (subV x a) - dotQ (subV x a) (subV b a) := by
    obtain ⟨a1, a2, a3⟩ := a; obtain ⟨b1, b2, b3⟩ := b; obtain ⟨x1, x2, x3⟩ := x
    simp only [dotQ, subV]; grind
   have hC : qb (subV b a) (subV x a) = (0, 0, 0) → dotQ (subV a x) (subV b x) < 0 := fun e => by
    rw [e] at lg
    have z : dotQ ((0, 0, 0) : V3) (0, 0, 0) = 0 := by simp only [dotQ]; grind
    rw [z, cm] at lg
    rw [e2]
    rw [e1] at h2
    generalize dotQ (subV b a) (subV b a) = D at *; generalize dotQ (subV x a) (subV b a) = d at *; generalize dotQ (subV x a) (subV x a) = X at *
    rcases Rat.le_total (a := X - d) (b := 0) with q | q
    ·by_cases q0 : X = d
     ·subst q0
      have := Rat.mul_pos (show 0 < X by grind) (show 0 < D - X by grind); grind
     ·grind
    ·have := Rat.mul_nonneg q (Rat.le_of_lt hD)
     have := Rat.mul_pos (show 0 < d by grind) (show 0 < D - d by grind); grind
   have hnz : dotQ (qb (subV b a) (subV x a)) (qb (subV b a) (subV x a)) ≠ 0 := fun e => hi ⟨vG e, hC (vG e)⟩
   refine Ib (n := subV (qh (dotQ (subV b a) (subV b a)) (subV x a)) (qh (dotQ (subV x a) (subV b a)) (subV b a))) (v := a) ?_ ?_ ?_
   ·rw [hdot, cm]; rw [cm] at lg; grind
   ·rw [self]; exact Rat.le_refl
   ·rw [hdot]; grind
theorem QC.rot {a : V3} {l : List V3} (h : QC (a :: l)) : QC (l ++ [a]) := by
 intro q i j k m h1 h2 h3 h4 h5
 rw [List.length_append] at h4
 simp only [List.length_cons, List.length_nil] at h4
 have g : ∀ i, i < l.length → (l ++ [a]).getD i z3 = (a :: l).getD (i + 1) z3 := fun i hi => by
  rw [List.getD_eq_getElem?_getD, List.getElem?_append_left hi, List.getD_cons_succ, List.getD_eq_getElem?_getD]
 by_cases e : m < l.length
 ·rw [g i (by omega), g j (by omega), g k (by omega), g m e] at h5
  exact h q (i + 1) (j + 1) (k + 1) (m + 1) (by omega) (by omega) (by omega) (by simp only [List.length_cons]; omega) h5
 ·have em : m = l.length := by omega
  have g2 : (l ++ [a]).getD m z3 = (a :: l).getD 0 z3 := by
   rw [em, List.getD_eq_getElem?_getD, List.getElem?_append_right (Nat.le_refl _)]; simp
  rw [g i (by omega), g j (by omega), g k (by omega), g2] at h5
  obtain ⟨f1, f2, f3, f4⟩ := h5
  exact h (ngQ q) 0 (i + 1) (j + 1) (k + 1) (by omega) (by omega) (by omega) (by simp only [List.length_cons]; omega) ⟨by rw [ji]; grind, by rw [ji]; grind, by rw [ji]; grind, by rw [ji]; grind⟩
theorem QC.cyc : ∀ {l m : List V3}, QC (l ++ m) → QC (m ++ l)
 | [], m, h => by rw [List.append_nil]; exact h
 | a :: l, m, h => by
  have h1 : QC (l ++ (m ++ [a])) := by
   have := QC.rot (a := a) (l := l ++ m) h
   rw [List.append_assoc] at this; exact this
  have := QC.cyc h1
  rw [List.append_assoc] at this; exact this
theorem ends (x : V3) : ∀ r : List V3, (∀ p ∈ r, p = x) ∨ ∃ i k, i < r.length ∧ k < r.length ∧ r.getD i z3 ≠ x ∧ r.getD k z3 ≠ x ∧ ∀ j, j < r.length → r.getD j z3 ≠ x → i ≤ j ∧ j ≤ k
 | [] => .inl fun p hp => by cases hp
 | y :: r => by
  have lc : (y :: r).length = r.length + 1 := rfl
  rcases ends x r with h | ⟨i, k, hi, hk, ni, nk, h⟩
  ·by_cases e : y = x
   ·exact .inl fun p hp => by
     rcases List.mem_cons.1 hp with hp | hp
     ·rw [hp, e]
     ·exact h p hp
   ·refine .inr ⟨0, 0, by omega, by omega, e, e, fun j hj hn => ?_⟩
    match j, hj, hn with
    | 0, _, _ => exact ⟨Nat.le_refl _, Nat.le_refl _⟩
    | j + 1, hj, hn =>
     rw [List.getD_cons_succ, qM (by omega)] at hn
     exact absurd (h _ (List.getElem_mem (by omega))) hn
  ·by_cases e : y = x
   ·refine .inr ⟨i + 1, k + 1, by omega, by omega, ni, nk, fun j hj hn => ?_⟩
    match j, hj, hn with
    | 0, _, hn => exact absurd e hn
    | j + 1, hj, hn => have := h j (by omega) hn; omega
   ·refine .inr ⟨0, k + 1, by omega, by omega, e, nk, fun j hj hn => ?_⟩
    match j, hj, hn with
    | 0, _, _ => omega
    | j + 1, hj, hn => have := h j (by omega) hn; omega
theorem expose {l : List V3} {x : V3} (hq : QC l) (hc : Cor l x) : ∃ f : V3 × Rat, valP f x = 0 ∧ ∀ p ∈ l, p ≠ x → valP f p < 0 := by
 obtain ⟨l1, l2, e⟩ := List.append_of_mem hc.1
 rw [e] at hq
 have hq := hq.cyc
 rw [List.cons_append] at hq
 have hm : ∀ p, p ∈ l → p = x ∨ p ∈ l2 ++ l1 := fun p hp => by
  rw [e] at hp
  simp only [List.mem_append, List.mem_cons] at hp ⊢
  rcases hp with h | h | h
  ·exact .inr (.inr h)
  ·exact .inl h
  ·exact .inr (.inl h)
 have hs : ∀ p, p ∈ l2 ++ l1 → p ∈ l := fun p hp => by
  rw [e]
  simp only [List.mem_append, List.mem_cons] at hp ⊢
  rcases hp with h | h
  ·exact .inr (.inr h)
  ·exact .inl h
 have hins := hc.2
 clear e hc
 generalize l2 ++ l1 = r at *
 rcases ends x r with h | ⟨i, k, hi, hk, ni, nk, h⟩
 ·refine ⟨((0, 0, 0), 0), by simp only [valP, dotQ]; grind, fun p hp hn => ?_⟩
  rcases hm p hp with h1 | h1
  ·exact absurd h1 hn
  ·exact absurd (h p h1) hn
 ·have mi : r.getD i z3 ∈ r := by rw [qM hi]; exact List.getElem_mem hi
  have mk : r.getD k z3 ∈ r := by rw [qM hk]; exact List.getElem_mem hk
  obtain ⟨f, fx, fa, fb⟩ := SN (Ne.symm ni) (Ne.symm nk) (hins _ (hs _ mi) _ (hs _ mk))
  refine ⟨lcQ 1 f 0 f (-valP f x), by rw [zz]; grind, fun p hp hn => ?_⟩
  rw [zz]
  have key : valP f p ≤ 0 := by
   rcases hm p hp with h1 | h1
   ·exact absurd h1 hn
   ·obtain ⟨j, hj, e⟩ := List.getElem_of_mem h1
    have e2 : r.getD j z3 = p := by rw [qM hj, e]
    have hb := h j hj (by rw [e2]; exact hn)
    rw [← e2]
    by_cases c1 : i = j
    ·subst c1; exact Rat.le_of_lt fa
    ·by_cases c2 : j = k
     ·subst c2; exact Rat.le_of_lt fb
     ·rcases Rat.le_total (a := valP f (r.getD j z3)) (b := 0) with q | q
      ·exact q
      ·by_cases q0 : valP f (r.getD j z3) = 0
       ·rw [q0]; exact Rat.le_refl
       ·exact absurd ⟨fx, fa, by simp only [List.getD_cons_succ]; grind, fb⟩ (hq f 0 (i + 1) (j + 1) (k + 1) (by omega) (by omega) (by omega) (by simp only [List.length_cons]; omega))
  grind
theorem bigK (f g : V3 × Rat) : ∀ l : List V3, (∀ p ∈ l, valP f p ≤ 0 ∧ (valP f p = 0 → valP g p ≤ 0)) → ∃ K : Rat, 0 ≤ K ∧ ∀ p ∈ l, K * valP f p + valP g p ≤ 0
 | [], _ => ⟨0, Rat.le_refl, fun p hp => by cases hp⟩
 | p :: l, h => by
  obtain ⟨K, K0, K1⟩ := bigK f g l fun u hu => h u (List.mem_cons_of_mem _ hu)
  have hp := h p List.mem_cons_self
  by_cases e : K * valP f p + valP g p ≤ 0
  ·exact ⟨K, K0, fun u hu => by
    rcases List.mem_cons.1 hu with rfl | hu
    ·exact e
    ·exact K1 u hu⟩
  ·have hf : valP f p ≠ 0 := fun e2 => by have := hp.2 e2; rw [e2] at e; grind
   have ed := div_eq (x := valP g p) (y := valP f p) hf
   generalize valP g p / valP f p = d at ed
   have hK : K ≤ -d := by
    rcases Rat.le_total (a := K) (b := -d) with q | q
    ·exact q
    ·have := Rat.mul_nonneg (show 0 ≤ K + d by grind) (show 0 ≤ -valP f p by grind); grind
   refine ⟨-d, by grind, fun u hu => ?_⟩
   rcases List.mem_cons.1 hu with rfl | hu
   ·grind
   ·have h1 := K1 u hu
    have h2 := (h u (List.mem_cons_of_mem _ hu)).1
    have := Rat.mul_nonneg (show 0 ≤ -d - K by grind) (show 0 ≤ -valP f u by grind); grind
theorem Hl.low {l : List V3} {f g : V3 × Rat} {y : V3} (hy : Hl l y) (h : ∀ p ∈ l, valP f p ≤ 0 ∧ (valP f p = 0 → valP g p ≤ 0)) (hf : valP f y = 0) : valP g y ≤ 0 := by
 obtain ⟨K, K0, K1⟩ := bigK f g l h
 have := hy (lcQ K f 1 g 0) fun p hp => by rw [zz]; have := K1 p hp; grind
 rw [zz, hf] at this; grind
theorem Hl.top {l : List V3} {f : V3 × Rat} {x y : V3} (h : ∀ p ∈ l, p ≠ x → valP f p < 0) (hx : valP f x = 0) (hy : Hl l y) (hf : valP f y = 0) : y = x := by
 have co : ∀ n : V3, dotQ n y ≤ dotQ n x := fun n => by
  have := hy.low (g := (n, dotQ n x)) (fun p hp => by
   by_cases e : p = x
   ·subst e; exact ⟨by rw [hx]; exact Rat.le_refl, fun _ => by unfold valP; grind⟩
   ·have := h p hp e; exact ⟨Rat.le_of_lt this, fun e => by grind⟩) hf
  unfold valP at this; grind
 have c1 := co (1, 0, 0); have c2 := co (-1, 0, 0); have c3 := co (0, 1, 0); have c4 := co (0, -1, 0); have c5 := co (0, 0, 1); have c6 := co (0, 0, -1)
 rw [vq]
 simp only [dotQ] at *
 exact ⟨by grind, by grind, by grind⟩
theorem UB {a b x : V3} (h : insQ a b x) {f : V3 × Rat} (ha : valP f a ≤ 0) (hb : valP f b ≤ 0) (hx : valP f x = 0) : valP f a = 0 := by
 obtain ⟨h1, h2⟩ := h
 have lg := lagr (subV b a) (subV x a)
 rw [h1] at lg
 -- x cuts the segment in the ratio of (x - a)(b - a) to (b - x)(b - a)
 have hb0 : valP f x * dotQ (subV b a) (subV b a) = valP f a * dotQ (subV b x) (subV b a) + valP f b * dotQ (subV x a) (subV b a) := by
  obtain ⟨⟨f1, f2, f3⟩, f4⟩ := f; obtain ⟨a1, a2, a3⟩ := a; obtain ⟨b1, b2, b3⟩ := b; obtain ⟨x1, x2, x3⟩ := x
  simp only [qb, subV, dotQ, valP, Prod.mk.injEq] at *
  obtain ⟨e1, e2, e3⟩ := h1
  grind
 have cm : dotQ (subV b a) (subV x a) = dotQ (subV x a) (subV b a) := by simp only [dotQ]; grind
 have e1 : dotQ (subV b x) (subV b a) = dotQ (subV b a) (subV b a) - dotQ (subV x a) (subV b a) := by
  obtain ⟨a1, a2, a3⟩ := a; obtain ⟨b1, b2, b3⟩ := b; obtain ⟨x1, x2, x3⟩ := x
  simp only [dotQ, subV]; grind
 have e2 : dotQ (subV a x) (subV b x) = dotQ (subV x a) (subV x a) - dotQ (subV x a) (subV b a) := by
  obtain ⟨a1, a2, a3⟩ := a; obtain ⟨b1, b2, b3⟩ := b; obtain ⟨x1, x2, x3⟩ := x
  simp only [dotQ, subV]; grind
 have z : dotQ ((0, 0, 0) : V3) (0, 0, 0) = 0 := by simp only [dotQ]; grind
 have nX := vi (subV x a)
 have nD := vi (subV b a)
 rw [z, cm] at lg
 rw [hx, e1] at hb0
 rw [e2] at h2
 generalize dotQ (subV b a) (subV b a) = D at *; generalize dotQ (subV x a) (subV b a) = d at *; generalize dotQ (subV x a) (subV x a) = X at *
 have hd : 0 < d := by grind
 have hDd : 0 < D - d := by
  rcases Rat.le_total (a := D) (b := d) with q | q
  ·have := Rat.mul_nonneg (show 0 ≤ d - D by grind) nX
   have := Rat.mul_pos hd (show 0 < d - X by grind)
   grind
  ·by_cases q0 : d = D
   ·subst q0
    have := Rat.mul_pos hd (show 0 < d - X by grind)
    grind
   ·grind
 have := Rat.mul_nonneg (show 0 ≤ -valP f b by grind) (Rat.le_of_lt hd)
 have := Rat.mul_nonneg (show 0 ≤ -valP f a by grind) (Rat.le_of_lt hDd)
 have h9 : valP f a * (D - d) = 0 := by grind
 rcases Rat.mul_eq_zero.1 h9 with h9 | h9
 ·exact h9
 ·grind
theorem LJ {l m : List V3} {x : V3} (hq : QC l) (hH : ∀ y, Hl l y ↔ Hl m y) (hc : Cor l x) : Cor m x := by
 obtain ⟨f, fx, fp⟩ := expose hq hc
 have le : ∀ p ∈ l, valP f p ≤ 0 := fun p hp => by
  by_cases e : p = x
  ·subst e; rw [fx]; exact Rat.le_refl
  ·exact Rat.le_of_lt (fp p hp e)
 have lm : ∀ p ∈ m, valP f p ≤ 0 := fun p hp => (hH p).2 (Hl.mem hp) f le
 have tm : ∀ p ∈ m, valP f p = 0 → p = x := fun p hp e => Hl.top fp fx ((hH p).2 (Hl.mem hp)) e
 have hx : Hl m x := (hH x).1 (Hl.mem hc.1)
 have xm : x ∈ m := by
  by_cases e : x ∈ m
  ·exact e
  ·exfalso
   have := hx.low (f := f) (g := ((0, 0, 0), -1)) (fun p hp => ⟨lm p hp, fun e2 => absurd (tm p hp e2 ▸ hp) e⟩) fx
   simp only [valP, dotQ] at this; grind
 refine ⟨xm, fun a ha b hb h => ?_⟩
 have := tm a ha (UB h (lm a ha) (lm b hb) fx)
 subst this
 exact (wL.1 h).2.1 rfl
theorem Kl (a b : T3) : qq a b = qq b a := by
 unfold qq
 by_cases h1 : qy a = z3
 ·rw [if_pos (.inl h1), if_pos (.inr h1)]
 ·by_cases h2 : qy b = z3
  ·rw [if_pos (.inr h2), if_pos (.inl h2)]
  ·rw [if_neg (not_or.2 ⟨h1, h2⟩), if_neg (not_or.2 ⟨h2, h1⟩)]
   have hH : ∀ y, Hl (qa a b) y ↔ Hl (qa b a) y := fun y => by rw [DK h2, DK h1]; exact And.comm
   refine G5 (Fu _) (Fu _) fun x => ?_
   rw [Ch, Ch]
   exact ⟨LJ (zC a b).1 hH, LJ (zC b a).1 fun y => (hH y).symm⟩
theorem Hl.dist {t : T3} {x : V3} (hN : qy t ≠ (0, 0, 0)) (h : Hl (lsT t) x) : j9 t x = 0 := by
 obtain ⟨u, v, hu, hv, h1, rfl⟩ := HA hN ((Jp hN).2 h)
 exact QA t hu hv h1
theorem IT {a b : T3} {x : V3} (hx : x ∈ qq a b) : j9 a x = 0 ∧ j9 b x = 0 := by
 unfold qq at hx
 split at hx
 ·cases hx
 ·rename_i hn
  obtain ⟨ha, hb⟩ := not_or.1 hn
  have := (DK hb).1 (Hl.mem (Cj hx))
  exact ⟨this.1.dist ha, this.2.dist hb⟩
section
theorem nq {q : Bool} (h : (!q) = true) : ¬ q = true := by simpa using h
theorem nq' {q : Bool} (h : ¬ (!q) = true) : q = true := by simpa using h
section
variable {l m : List V3} {i : Nat}
theorem SX (h : l.take i = m.take i) (hl : l.length = m.length) (hi : i < l.length) (e : l.getD i z3 = m.getD i z3) : l.take (i + 1) = m.take (i + 1) := by
 rw [jB (d := z3) hi, jB (d := z3) (by omega), h, e]
theorem XN (e : ¬ l.getD i z3 = m.getD i z3) : false = decide (l = m) := (decide_eq_false fun h => e (by rw [h])).symm
theorem Wd (e : ¬ l.length = m.length) : false = decide (l = m) := (decide_eq_false fun h => e (by rw [h])).symm
theorem Wc (h : l.take i = m.take i) (hl : l.length = m.length) (hi : ¬ i < l.length) : true = decide (l = m) := by
 rw [List.take_of_length_le (by omega), List.take_of_length_le (by omega)] at h
 exact (decide_eq_true h).symm
end
theorem JN (l : List V3) : ∀ n, (rcN l n).length ≤ n
 | 0 => Nat.le_refl 0
 | n + 1 => by
  have := JN l n
  rw [rcN]; split
  ·rw [HC]; omega
  ·omega
def KpI (l : List V3) (i j : Nat) (q : Bool) : Prop := q = true ↔ ∀ a, a < j → Kp l i a
def KpJ (l : List V3) (i j k : Nat) (q : Bool) : Prop := q = true ↔ (∀ a, a < j → Kp l i a) ∧ (j < i → l.getD i z3 ≠ l.getD j z3) ∧ ∀ c, c < k → ¬ insQ (l.getD j z3) (l.getD c z3) (l.getD i z3)
section
variable {l o : List V3} {i j k : Nat} {q : Bool}
theorem KpI.start : KpI l i 0 true := ⟨fun _ a ha => absurd ha (Nat.not_lt_zero a), fun _ => rfl⟩
theorem KpJ.start (h : KpI l i j q) (hq : q = true) {r : Bool} (hr : r = true ↔ (j < i → l.getD i z3 ≠ l.getD j z3)) : KpJ l i j 0 r := by
 constructor
 ·intro e; exact ⟨h.1 hq, hr.1 e, fun c hc => absurd hc (Nat.not_lt_zero c)⟩
 ·intro e; exact hr.2 e.2.1
theorem kj_r {x y : V3} (h : j < i) : (!decide (x = y)) = true ↔ (j < i → x ≠ y) := by simp [h]
theorem kj_t (h : i ≤ j) {x y : V3} : true = true ↔ (j < i → x ≠ y) := ⟨fun _ h2 => absurd h2 (by omega), fun _ => rfl⟩
theorem KpJ.step (h : KpJ l i j k q) (hq : q = true) : KpJ l i j (k + 1) (!decide (insQ (l.getD j z3) (l.getD k z3) (l.getD i z3))) := by
 have hh := h.1 hq
 unfold KpJ
 rw [Bool.not_eq_true', decide_eq_false_iff_not]
 constructor
 ·intro e
  refine ⟨hh.1, hh.2.1, fun c hc => ?_⟩
  by_cases e2 : c = k
  ·subst e2; exact e
  ·exact hh.2.2 c (by omega)
 ·intro e; exact e.2.2 k (by omega)
theorem KpJ.stop (h : KpJ l i j k q) (he : k = l.length ∨ ¬ q = true) (hk : k ≤ l.length) : KpI l i (j + 1) q := by
 constructor
 ·intro e a ha
  have hh := h.1 e
  by_cases e2 : a = j
  ·subst e2
   refine ⟨hh.2.1, fun c hc => ?_⟩
   rcases he with he | he
   ·exact hh.2.2 c (by omega)
   ·exact absurd e he
  ·exact hh.1 a (by omega)
 ·intro e
  exact h.2 ⟨fun a ha => e a (by omega), (e j (by omega)).1, fun c hc => (e j (by omega)).2 c (by omega)⟩
theorem KpI.stop (h : KpI l i j q) (he : j = l.length ∨ ¬ q = true) (hj : j ≤ l.length) : q = true ↔ ∀ a, a < l.length → Kp l i a := by
 constructor
 ·intro e a ha
  rcases he with he | he
  ·exact h.1 e a (by omega)
  ·exact absurd e he
 ·intro e; exact h.2 fun a ha => e a (by omega)
theorem rc_n (h : o = rcN l i) (k : q = true ↔ ∀ a, a < l.length → Kp l i a) (hq : ¬ q = true) : o = rcN l (i + 1) := by
 rw [rcN, if_neg (fun e => hq (k.2 e)), h]
theorem rc_y (h : o = rcN l i) (k : q = true ↔ ∀ a, a < l.length → Kp l i a) (hq : q = true) : insR z3 cpV (l.getD i z3) o = rcN l (i + 1) := by
 rw [rcN, if_pos (k.1 hq), h]
theorem Vz (h : o = rcN l i) (hi : ¬ i < l.length) (hl : i ≤ l.length) : o = zk l := by
 rw [h, show i = l.length by omega, Vy]
def PoR (x : V3) (o : List V3) (r : Nat) : Prop := posR z3 cpV x o r = posR z3 cpV x o o.length ∧ r ≤ o.length
theorem PoR.start (x : V3) (o : List V3) : PoR x o o.length := ⟨rfl, Nat.le_refl _⟩
theorem PoR.step {x : V3} {r : Nat} (h : PoR x o r) (h0 : 0 < r) (hc : cpV x (o.getD (r - 1) z3) < 0) : PoR x o (r - 1) := by
 refine ⟨?_, by have := h.2; omega⟩
 rw [← h.1]
 obtain ⟨r, rfl⟩ : ∃ s, r = s + 1 := ⟨r - 1, by omega⟩
 rw [show r + 1 - 1 = r by omega] at hc ⊢
 rw [posR, if_pos hc]
theorem PoR.pos {x : V3} {r : Nat} (h : PoR x o r) (hc : ¬ 0 < r ∨ ¬ cpV x (o.getD (r - 1) z3) < 0) : posR z3 cpV x o o.length = r := by
 rw [← h.1]
 rcases Nat.eq_zero_or_pos r with e | e
 ·subst e; rfl
 ·rcases hc with hc | hc
  ·exact absurd e hc
  ·obtain ⟨r, rfl⟩ : ∃ s, r = s + 1 := ⟨r - 1, by omega⟩
   rw [show r + 1 - 1 = r by omega] at hc
   rw [posR, if_neg hc]
theorem Ro {x : V3} {r n1 n2 : Nat} (h : posR z3 cpV x o o.length = r) (hr : r ≤ o.length) (h1 : n1 = o.length - r) (h2 : n2 = o.length + 1 - r) : (cpyL (o ++ [z3]) (r + 1) r (min n2 n1)).set r x = insR z3 cpV x o := by
 unfold insR cpyL
 rw [h]
 subst h1 h2
 rw [show min (o.length + 1 - r) (o.length - r) = o.length - r by omega]
 have e1 : (o ++ [z3]).take (r + 1) = o.take r ++ [(o ++ [z3]).getD r z3] := by
  rw [jB (d := z3) (by simp; omega), List.take_append_of_le_length hr]
 have e2 : ((o ++ [z3]).drop r).take (o.length - r) = o.drop r := by
  rw [List.drop_append_of_le_length hr, List.take_append_of_le_length (by simp)]
  exact List.take_of_length_le (by simp)
 have e3 : (o ++ [z3]).drop (r + 1 + (o.length - r)) = [] := List.drop_of_length_le (by simp; omega)
 rw [e1, e2, e3, List.append_nil, List.append_assoc]
 have hlen : (o.take r).length = r := by rw [List.length_take]; omega
 rw [List.set_append_right _ _ (by omega), hlen, Nat.sub_self]; rfl
end
theorem D6 {x : V3} {o : List V3} {r : Nat} (h : posR z3 cpV x o o.length = r) (hr : r ≤ o.length) : (cpyL (o ++ [z3]) (r + 1) r (min ((o.length + [z3].length) - r) ((o.length + [z3].length) - (r + 1)))).set r x = insR z3 cpV x o :=
 Ro h hr (by simp) (by simp)
theorem PY {o : List V3} {r : Nat} (hr : r ≤ o.length) : (cpyL (o ++ [z3]) (r + 1) r (min ((o.length + [z3].length) - r) ((o.length + [z3].length) - (r + 1)))).length = o.length + [z3].length := by
 unfold cpyL; simp only [List.length_append, List.length_take, List.length_drop, List.length_cons, List.length_nil]; omega
theorem GO {o : List V3} {r : Nat} (hr : r ≤ o.length) : r < (cpyL (o ++ [z3]) (r + 1) r (min ((o.length + [z3].length) - r) ((o.length + [z3].length) - (r + 1)))).length := by
 rw [PY hr]; exact Nat.lt_succ_of_le hr
theorem GP {o : List V3} {r i : Nat} {x : V3} (hr : r ≤ o.length) : o.length + [z3].length = ((cpyL (o ++ [z3]) (r + 1) r (min ((o.length + [z3].length) - r) ((o.length + [z3].length) - (r + 1)))).set i x).length := by
 rw [List.length_set, PY hr]
theorem Qo {a b : T3} {k : Nat} (ha : Bnd tT3 (bT3 64) a) (hb : Bnd tT3 (bT3 64) b) (hk : 518000000 ≤ k := by decide) : Bnd (.sl tV3) (.s 255 (bV3 k)) (qa a b) := by
 have g := J6 (m := 64) (a := a) (b := b) ⟨ha.1, ha.2.1, ha.2.2⟩ ⟨hb.1, hb.2.1, hb.2.2⟩
 exact ⟨Nat.le_trans (zC a b).2 (by decide), fun x hx => v8 (g.2 x hx) (by omega)⟩
theorem NX (a b : T3) : (qq a b).length ≤ 8 := by
 unfold qq; split
 ·exact Nat.zero_le _
 ·exact Nat.le_trans (Ci _) (zC a b).2
theorem Gg {a b : T3} {j : Nat} (h : j < (qq a b).length) : j9 a ((qq a b).getD j z3) = 0 ∧ j9 b ((qq a b).getD j z3) = 0 :=
 IT (by rw [qM h]; exact List.getElem_mem h)
def getT (t : T3) (k : Nat) : V3 := gt tV3 [t.1, t.2.1, t.2.2] k
def setT (t : T3) (k : Nat) (v : V3) : T3 := (gt tV3 ([t.1, t.2.1, t.2.2].set k v) 0, gt tV3 ([t.1, t.2.1, t.2.2].set k v) 1, gt tV3 ([t.1, t.2.1, t.2.2].set k v) 2)
def touL (a : T3) : Nat → T3 → Dice → T3 × Dice
 | 0, b, s => (b, s)
 | n + 1, b, s => touL a n (setT b (qc s 3).toNat (getT a (qc (q6 s) 3).toNat)) (q6 (q6 s))
def Kn (p : V3) : V3 := (p.1, p.2.1, 0)
def Ex (t : T3) : T3 := (Kn t.1, Kn t.2.1, Kn t.2.2)
def midS (t : T3) (x : Int) : V3 := addV t.1 (qh (ER x) (subV t.2.1 t.1))
def L6 (s : Dice) : Dice := triS (triS s)
def jX (s : Dice) : T3 × Dice := touL (triV s) (qc (L6 s) 3).toNat (triV (triS s)) (q6 (L6 s))
def touA (s : Dice) : T3 := if qc (jX s).2 5 = 0 then triV s else if qc (jX s).2 5 = 1 then Ex (triV s) else triV s
def touB (s : Dice) : T3 := if qc (jX s).2 5 = 0 then (midS (triV s) (qc (q6 (jX s).2) 99), (jX s).1.2) else if qc (jX s).2 5 = 1 then Ex (jX s).1 else (jX s).1
def touS (s : Dice) : Dice := if qc (jX s).2 5 = 0 then q6 (q6 (jX s).2) else q6 (jX s).2
theorem Wg {a t : T3} {u : Dice} {i : Int} (h : 0 < i) : touL a i.toNat t u = touL a (i - 1).toNat (setT t (qc u 3).toNat (getT a (qc (q6 u) 3).toNat)) (q6 (q6 u)) := by
 rw [show i.toNat = (i - 1).toNat + 1 by omega]; rfl
theorem La {a t : T3} {u : Dice} {i : Int} {X : T3 × Dice} (h : touL a i.toNat t u = X) (hi : ¬ 0 < i) : t = X.1 ∧ u = X.2 := by
 rw [show i.toNat = 0 by omega] at h; subst h; exact ⟨rfl, rfl⟩
section
variable {s u : Dice} {t : T3} {i : Int}
theorem L7 (hI : touL (triV s) i.toNat t u = jX s) (hi : ¬ 0 < i) (h : qc u 5 = 0) : q6 (q6 u) = touS s ∧ triV s = touA s ∧ (midS (triV s) (qc (q6 u) 99), t.2) = touB s := by
 obtain ⟨e1, e2⟩ := La hI hi
 unfold touS touA touB
 rw [← e2, if_pos h, if_pos h, if_pos h, ← e1]
 exact ⟨rfl, rfl, rfl⟩
theorem L8 (hI : touL (triV s) i.toNat t u = jX s) (hi : ¬ 0 < i) (n : ¬ qc u 5 = 0) (h : qc u 5 = 1) : q6 u = touS s ∧ Ex (triV s) = touA s ∧ Ex t = touB s := by
 obtain ⟨e1, e2⟩ := La hI hi
 unfold touS touA touB
 rw [← e2, if_neg n, if_neg n, if_neg n, if_pos h, if_pos h, ← e1]
 exact ⟨rfl, rfl, rfl⟩
theorem L9 (hI : touL (triV s) i.toNat t u = jX s) (hi : ¬ 0 < i) (n : ¬ qc u 5 = 0) (h : ¬ qc u 5 = 1) : q6 u = touS s ∧ triV s = touA s ∧ t = touB s := by
 obtain ⟨e1, e2⟩ := La hI hi
 unfold touS touA touB
 rw [← e2, if_neg n, if_neg n, if_neg n, if_neg h, if_neg h, ← e1]
 exact ⟨rfl, rfl, rfl⟩
end
theorem gt_b {l : List V3} {m : Nat} (h : ∀ x ∈ l, Bnd tV3 (bV3 m) x) (i : Nat) : Bnd tV3 (bV3 m) (gt tV3 l i) := EA h i
theorem Um {t : T3} {m : Nat} (h : Bnd tT3 (bT3 m) t) (i : Nat) : Bnd tV3 (bV3 m) (getT t i) := gt_b (Lb ⟨h.1, h.2.1, h.2.2⟩) i
theorem W8 {t : T3} {m : Nat} {v : V3} (h : Bnd tT3 (bT3 m) t) (hv : Bnd tV3 (bV3 m) v) (k : Nat) : Bnd tT3 (bT3 m) (setT t k v) := by
 have g : ∀ x ∈ [t.1, t.2.1, t.2.2].set k v, Bnd tV3 (bV3 m) x := fun x hx => by
  rcases List.mem_or_eq_of_mem_set hx with hx | rfl
  ·exact Lb ⟨h.1, h.2.1, h.2.2⟩ x hx
  ·exact hv
 exact ⟨gt_b g 0, gt_b g 1, gt_b g 2⟩
theorem Nh {a : T3} {m : Nat} (ha : Bnd tT3 (bT3 m) a) : ∀ (n : Nat) (b : T3) (s : Dice), Bnd tT3 (bT3 m) b → Bnd tT3 (bT3 m) (touL a n b s).1
 | 0, b, s, h => h
 | n + 1, b, s, h => Nh ha n _ _ (W8 h (Um ha _) _)
theorem Dq {t : T3} {m k : Nat} (h : Bnd tT3 (bT3 m) t) (hk : m ≤ k) : Bnd tT3 (bT3 k) t := ⟨v8 h.1 hk, v8 h.2.1 hk, v8 h.2.2 hk⟩
theorem M5 {t : T3} {m : Nat} (h : Bnd tT3 (bT3 m) t) : Bnd tT3 (bT3 m) (Ex t) := by
 have z := (z3_b m).1
 exact ⟨⟨h.1.1, h.1.2.1, z⟩, ⟨h.2.1.1, h.2.1.2.1, z⟩, ⟨h.2.2.1, h.2.2.2.1, z⟩⟩
theorem F5 (s : Dice) : Bnd tT3 (bT3 64) (touA s) := by
 have h := CP s
 unfold touA; split
 ·exact Dq h (by decide)
 ·split
  ·exact Dq (M5 h) (by decide)
  ·exact Dq h (by decide)
theorem Xz {t : T3} (h : Bnd tT3 (bT3 5) t) (x : Int) : Bnd tV3 (bV3 64) (midS t x) :=
 v8 (m := 5 + (5 + (5 + 5 + 1)) + 1) (C5 (b := bV3 5) h.1 (BQ (b := .n 5) (JE x) (CO (b := bV3 5) (c := bV3 5) h.2.1 h.1))) (by decide)
theorem XR {t : T3} (h : Bnd tT3 (bT3 5) t) {p : V3} (hp : Bnd tV3 (bV3 64) p) : Bnd tT3 (bT3 64) (p, t.2) := by
 have := Dq h (k := 64) (by decide)
 exact ⟨hp, this.2.1, this.2.2⟩
theorem T9 (s : Dice) : Bnd tT3 (bT3 5) (jX s).1 := Nh (CP s) _ _ _ (CP _)
theorem F6 (s : Dice) : Bnd tT3 (bT3 64) (touB s) := by
 have h := T9 s
 unfold touB; split
 ·exact XR h (Xz (CP s) _)
 ·split
  ·exact Dq (M5 h) (by decide)
  ·exact Dq h (by decide)
theorem Wi (s : Dice) : (WV.tup [.agg [.dt tT3 (bT3 64) (touA s)], .agg [.dt tT3 (bT3 64) (touB s)]]).ok :=
 qF (jh (F5 s)) (qF (jh (F6 s)) jz)
theorem Ni {a : T3} {b : Bd} : ∀ (n : Nat) (t : T3) (s : Dice), Bnd jI (.p b.l (.n (max b.r.nb b.l.len))) s → Bnd jI (.p b.l (.n (max b.r.nb b.l.len))) (touL a n t s).2
 | 0, _, _, h => h
 | n + 1, t, s, h => Ni n _ _ (vJ (b := b) (vJ (b := b) h))
theorem Wh {s : Dice} {b : Bd} (h : Bnd jI b s) : Bnd jI (.p b.l (.n (max b.r.nb b.l.len))) (touS s) := by
 have h0 := Ni (a := triV s) (b := b) (qc (L6 s) 3).toNat (triV (triS s)) _ (vJ (b := b) (JZ (b := b) (Nj (b := b) h)))
 unfold touS; split
 ·exact vJ (b := b) (vJ (b := b) h0)
 ·exact vJ (b := b) h0
end
section
section
variable {P : Program}
def rigT (t : Ty) (b : Bd) (xs : List t.den) : Nat → Nat → List WA
 | 0, _ => []
 | n + 1, j => .dt t b (gt t xs j) :: rigT t b xs n (j + 1)
theorem I6 {t : Ty} {b : Bd} {xs : List t.den} : ∀ {n j : Nat}, n + j = xs.length → WAs.exp (rigT t b xs n j) = allA t (xs.drop j)
 | 0, j, h => by rw [List.drop_of_length_le (by omega)]; rfl
 | n + 1, j, h => by
  have hj : j < xs.length := by omega
  have e : xs.drop j = gt t xs j :: xs.drop (j + 1) := by
   unfold gt; rw [List.getD_eq_getElem?_getD, List.getElem?_eq_getElem hj]; exact List.drop_eq_getElem_cons hj
  have ih := I6 (t := t) (b := b) (xs := xs) (n := n) (j := j + 1) (by omega)
  rw [e]
  show WAs.exp ([.dt t b (gt t xs j)] ++ rigT t b xs n (j + 1)) = allA t ([gt t xs j] ++ xs.drop (j + 1))
  rw [WAs.exp_app, zB, ih, jF]; simp [allA]
theorem JO {t : Ty} {b : Bd} {xs : List t.den} (h : ∀ x ∈ xs, Bnd t b x) : ∀ {n j : Nat}, n + j = xs.length → WAs.ok (rigT t b xs n j)
 | 0, j, _ => fun u hu => by simp [rigT] at hu
 | n + 1, j, e => by
  show WAs.ok ([.dt t b (gt t xs j)] ++ rigT t b xs n (j + 1))
  exact WAs.ok_app.2 ⟨j4 (Bnd.gt h (by omega)), JO h (by omega)⟩
theorem Qe {a a' u u' : List Atom} (off : Nat) (h : AImps a a') (k : AImps u u') : AImps (spl a off u) (spl a' off u') := by
 have e := zj k
 unfold spl
 rw [e]
 exact vu (DG off h) (vu k (DF _ h))
def gStA (P : Program) (t : Ty) (b : Bd) (n : Nat) : Op → Option Tmp → (Nat → Option WB) → List WV → HR
 | .store ty _ _, _, bl, [.c (.one (.el k i fo w)), .c v] => match bl k, qN P ty with
  | some (.rig l), some (g, s) => match zT t b n l, reify t v.cells with
   | some xs, some (b', z, []) => bif Nat.beq fo 0 && (Nat.beq w t.w && (Nat.beq s t.w && (Nat.beq (WAs.wd v.cells) s && b'.le b))) then .ok [i < n] v9 [k] [(k, some (.rig (rigT t b (xs.set i z) n 0)))] else .bad
   | _, _ => .bad
  | _, _ => .bad
 | _, _, _, _ => .bad
def Uf (t : Ty) (b : Bd) (n : Nat) : Ext P := ⟨gStA P t b n, by
 intro op dst ty bl vs hl
 unfold gStA
 split
 ·rename_i ty' x y k i fo w v
  split
  ·rename_i l g s hbl hs
   split
   ·rename_i xs b' z hx hr
    cases h0 : Nat.beq fo 0 && (Nat.beq w t.w && (Nat.beq s t.w && (Nat.beq (WAs.wd v.cells) s && b'.le b))) with
    | false => exact trivial
    | true =>
     simp only [Bool.and_eq_true] at h0
     obtain ⟨q1, q2, q3, q4, q5⟩ := h0
     have q1 := Nat.eq_of_beq_eq_true q1; have q2 := Nat.eq_of_beq_eq_true q2; have q3 := Nat.eq_of_beq_eq_true q3; have q4 := Nat.eq_of_beq_eq_true q4
     subst q1 q2 q3
     intro hv hbo hvc kin hk hkb
     rw [jO hk hkb hbl]
     have hin : i < n := hvc _ List.mem_cons_self
     obtain ⟨i1, i2, i3⟩ := wj hx
     have hxs := i3 (hbo k _ hbl)
     have hi : i < xs.length := by omega
     have hv' : v.ok := hv (.c v) (by simp)
     obtain ⟨m', e1, j1, o1⟩ := jt hr
     have e1' : WAs.exp v.cells = m' := by rw [e1]; simp [WAs.exp]
     subst e1'
     have hve : v.exp.cells = WAs.exp v.cells := WC.exp_cells hv'
     have hvl : v.exp.cells.length = t.w := by rw [hve, WAs.exp_len, q4]
     have hz := Bnd.mono q5 (o1 (WC.ok_cells hv')).1
     have hset : ∀ u ∈ xs.set i z, Bnd t b u := fun u hu => by
      rcases EI hu with hu | rfl
      ·exact hxs u hu
      ·exact hz
     have hlen : (xs.set i z).length = xs.length := List.length_set
     have hle : (i + 1) * t.w ≤ xs.length * t.w := Nat.mul_le_mul_right _ hi
     rw [Nat.succ_mul] at hle
     have hll := zj i1
     rw [jw] at hll
     have hop := DY (P := P) (ty := ty) (x := x) (y := y) (k := k) (off := i * t.w) (cs := WAs.exp l) (v := v.exp) hs hvl (by omega)
     refine ⟨?_, zh, jT (JO hset (by omega))⟩
     refine hop.weak (fun _ _ _ h => h) (C8 (vg ?_))
     rw [I6 (by omega), List.drop_zero, ← H6 t xs i z hi, hve]
     exact Qe _ i1 j1
   ·exact trivial
  ·exact trivial
 ·exact trivial⟩
def gIxZ (P : Program) : Op → Option Tmp → (Nat → Option WB) → List WV → HR
 | .indexAddr t _ _, _, _, [.c (.one (.loc k off)), .c (.one (.dt (.int kk) b z))] => match P.underlying t with
  | some (.array m e) => match P.info? e with
   | some ie => bif Nat.beq off 0 then .ok [(0 : Int) ≤ (show Int from z), (show Int from z) < (m : Int)] (.c (.one (.el k (show Int from z).toNat 0 ie.size))) [] [] else .bad
   | none => .bad
  | _ => .bad
 | _, _, _, _ => .bad
def M4 : Ext P := ⟨gIxZ P, by
 intro op dst ty bl vs hl
 unfold gIxZ
 split
 ·rename_i t k off kk b z
  split
  ·rename_i m e hu
   split
   ·rename_i ie he
    cases h0 : Nat.beq off 0 with
    | false => exact trivial
    | true =>
     have := Nat.eq_of_beq_eq_true h0; subst this
     intro hv _ hvc kin hk _
     rw [qg hk]
     have hz : (0 : Int) ≤ (show Int from z) := hvc _ List.mem_cons_self
     have hlt : (show Int from z) < (m : Int) := hvc _ (List.mem_cons_of_mem _ List.mem_cons_self)
     refine ⟨?_, ⟨trivial, rfl⟩, qk⟩
     show OpOk P (.indexAddr _ _ _) ty [(_, .c (.one (.loc k 0))), (_, vInt kk z)] [] (.c (.one (.loc k ((show Int from z).toNat * ie.size + 0)))) []
     rw [show (show Int from z).toNat * ie.size + 0 = 0 + (show Int from z).toNat * ie.size by simp]
     exact vK hu he hz hlt
   ·exact trivial
  ·exact trivial
 ·exact trivial⟩
end
end
abbrev Pj : FI := ⟨14, [(.sl (.pr .rat (.pr .rat .rat))), (.sl (.pr .rat (.pr .rat .rat)))], [(.s 255 (.p (.n 536870904) (.p (.n 536870904) (.n 536870904)))), (.s 255 (.p (.n 536870904) (.p (.n 536870904) (.n 536870904))))], fun _ => [], fun b z => (fun (l : List (Rat × Rat × Rat)) (m : List (Rat × Rat × Rat)) => .c (.one (.dt .bool .u (decide (l = m))))) z.1 z.2⟩
theorem Pk : Pj.OK Tryz.prog := mkF hmix 27 Tryz.func14 rfl rfl (by decide) [(55, .c BV)] (fun _ => rfl) (fun _ => rfl) (fun _ _ => rfl) (fun (l : List (Rat × Rat × Rat)) (m : List (Rat × Rat × Rat)) b hx hp => qe trivial rfl) (fun (l : List (Rat × Rat × Rat)) (m : List (Rat × Rat × Rat)) hx hp => by
 have hl0 : l.length ≤ 255 := hx.1.1
 have hl1 : m.length ≤ 255 := hx.2.1
 exact ⟨.cond (.nil) (.loop [.s 5 (.nat .i64) (.n 1048576)] (fun (i : Nat) => l.take i = m.take i ∧ i ≤ l.length) (fun (i : Nat) => l.length - i) (fun (i : Nat) => .nil)), kcast (by kernel_rfl) (And.intro (fun (h1 : l.length ≠ m.length) => (Wd h1 : false = decide (l = m))) (fun (h2 : ¬ (l.length ≠ m.length)) => I (⟨rfl, Nat.zero_le _⟩ : l.take 0 = m.take 0 ∧ 0 ≤ l.length) (fun (i : Nat) (hb3 : HB [.s 5 (.nat .i64) (.n 1048576)] i) (hI : l.take i = m.take i ∧ i ≤ l.length) => have hv8 := (show i ≤ 1048576 from hb3); And.intro (fun (h4 : i < l.length) => I (by omega : i < l.length) (I (by omega : i < m.length) (And.intro (fun (h5 : (!(decide ((l.getD i (0, (0, 0))) = (m.getD i (0, (0, 0)))))) = true) => (XN (nd h5) : false = decide (l = m))) (fun (h6 : ¬ ((!(decide ((l.getD i (0, (0, 0))) = (m.getD i (0, (0, 0)))))) = true)) => I (show (i + 1) ≤ 1048576 by omega : Bnd (.nat .i64) (.n 1048576) (i + 1)) (And.intro (⟨SX hI.1 (by omega) (by omega) (nd' h6), by omega⟩ : l.take (i + 1) = m.take (i + 1) ∧ (i + 1) ≤ l.length) (by omega : l.length - (i + 1) < l.length - i)))))) (fun (h7 : ¬ (i < l.length)) => (Wc hI.1 (by omega) h7 : true = decide (l = m))))))⟩)
abbrev Pi : Ctr Tryz.prog := FI.c Pk
abbrev Ss : FI := ⟨15, [(.pr (.pr .rat (.pr .rat .rat)) (.pr (.pr .rat (.pr .rat .rat)) (.pr .rat (.pr .rat .rat)))), (.pr (.pr .rat (.pr .rat .rat)) (.pr (.pr .rat (.pr .rat .rat)) (.pr .rat (.pr .rat .rat))))], [(.p (.p (.n 64) (.p (.n 64) (.n 64))) (.p (.p (.n 64) (.p (.n 64) (.n 64))) (.p (.n 64) (.p (.n 64) (.n 64))))), (.p (.p (.n 64) (.p (.n 64) (.n 64))) (.p (.p (.n 64) (.p (.n 64) (.n 64))) (.p (.n 64) (.p (.n 64) (.n 64)))))], fun z => (fun (a : (Rat × Rat × Rat) × (Rat × Rat × Rat) × Rat × Rat × Rat) (b_ : (Rat × Rat × Rat) × (Rat × Rat × Rat) × Rat × Rat × Rat) => [Bnd tT3 (bT3 64) a, Bnd tT3 (bT3 64) b_]) z.1 z.2, fun b z => (fun (a : (Rat × Rat × Rat) × (Rat × Rat × Rat) × Rat × Rat × Rat) (b_ : (Rat × Rat × Rat) × (Rat × Rat × Rat) × Rat × Rat × Rat) => .c (.one (.dt (.sl tV3) (.s 96 (bV3 41000)) (qq a b_)))) z.1 z.2⟩
theorem St : Ss.OK Tryz.prog := mkF hmix 137 Tryz.func15 rfl rfl (by decide) [(55, .c BV), (58, .c QX), (59, .c Mv), (60, .c So), (61, .c Vn), (62, .c Lh), (63, .c VH), (64, .c SY)] (fun _ => rfl) (fun _ => rfl) (fun _ _ => rfl) (fun (a : (Rat × Rat × Rat) × (Rat × Rat × Rat) × Rat × Rat × Rat) (b_ : (Rat × Rat × Rat) × (Rat × Rat × Rat) × Rat × Rat × Rat) b hx hp => DM (Nat.le_refl _) (hp _ List.mem_cons_self) (hp _ (List.mem_cons_of_mem _ List.mem_cons_self))) (fun (a : (Rat × Rat × Rat) × (Rat × Rat × Rat) × Rat × Rat × Rat) (b_ : (Rat × Rat × Rat) × (Rat × Rat × Rat) × Rat × Rat × Rat) hx hp => by
 have hp0 : Bnd tT3 (bT3 64) a := hp _ (List.mem_cons_self)
 have hp1 : Bnd tT3 (bT3 64) b_ := hp _ (List.mem_cons_of_mem _ (List.mem_cons_self))
 exact ⟨.cond (.nil) (.cond (.nil) (.pre 4 (.ex (frzP 2 (.pr (.pr .rat (.pr .rat .rat)) (.pr (.pr .rat (.pr .rat .rat)) (.pr .rat (.pr .rat .rat)))) (.p (.p (.n 64) (.p (.n 64) (.n 64))) (.p (.p (.n 64) (.p (.n 64) (.n 64))) (.p (.n 64) (.p (.n 64) (.n 64))))) [2])) (.h 4 0 (.ext (Jl (.pr .rat (.pr .rat .rat)) (.p (.n 64) (.p (.n 64) (.n 64))))) (.pre 10 (.ex (rwS 6 (.sl (.pr .rat (.pr .rat .rat))) (.s 255 (.p (.n 536870904) (.p (.n 536870904) (.n 536870904)))) (qa a b_))) (.loop [.s 9 (.nat .i64) (.n 256), .g 8 90002 (.pr .rat (.pr .rat .rat)) (.p (.n 536870904) (.p (.n 536870904) (.n 536870904))) 255] (fun ((i, out) : Nat × List (Rat × Rat × Rat)) => out = rcN (qa a b_) i ∧ i ≤ (qa a b_).length) (fun ((i, out) : Nat × List (Rat × Rat × Rat)) => (qa a b_).length - i) (fun ((i, out) : Nat × List (Rat × Rat × Rat)) => .cond (.loop [.s 11 (.nat .i64) (.n 256), .s 10 .bool .u] (fun ((j, q) : Nat × Bool) => KpI (qa a b_) i j q ∧ j ≤ (qa a b_).length) (fun ((j, q) : Nat × Bool) => (qa a b_).length - j) (fun ((j, q) : Nat × Bool) => .cond (.cond (.cond (.loop [.s 12 (.nat .i64) (.n 256), .s 10 .bool .u] (fun ((k, q2) : Nat × Bool) => KpJ (qa a b_) i j k q2 ∧ k ≤ (qa a b_).length) (fun ((k, q2) : Nat × Bool) => (qa a b_).length - k) (fun ((k, q2) : Nat × Bool) => .nil)) (.loop [.s 12 (.nat .i64) (.n 256), .s 10 .bool .u] (fun ((k, q2) : Nat × Bool) => KpJ (qa a b_) i j k q2 ∧ k ≤ (qa a b_).length) (fun ((k, q2) : Nat × Bool) => (qa a b_).length - k) (fun ((k, q2) : Nat × Bool) => .nil))) (.cond (.nil) (.loop [.s 13 (.nat .i64) (.n 256)] (fun (r : Nat) => PoR ((qa a b_).getD i z3) out r) (fun (r : Nat) => r) (fun (r : Nat) => .cond (.h 24 9 (.i .sub) (.cond (.h 25 1 (.i .sub) (.nil)) (.h 26 2 (.mk (.im (.pr .rat (.pr .rat .rat)) (.p (.n 536870904) (.p (.n 536870904) (.n 536870904))))) (.h 27 7 (.ext Ew) (.nil))))) (.h 26 2 (.mk (.im (.pr .rat (.pr .rat .rat)) (.p (.n 536870904) (.p (.n 536870904) (.n 536870904))))) (.h 27 7 (.ext Ew) (.nil))))))) (.cond (.nil) (.loop [.s 13 (.nat .i64) (.n 256)] (fun (r : Nat) => PoR ((qa a b_).getD i z3) out r) (fun (r : Nat) => r) (fun (r : Nat) => .cond (.h 24 9 (.i .sub) (.cond (.h 25 1 (.i .sub) (.nil)) (.h 26 2 (.mk (.im (.pr .rat (.pr .rat .rat)) (.p (.n 536870904) (.p (.n 536870904) (.n 536870904))))) (.h 27 7 (.ext Ew) (.nil))))) (.h 26 2 (.mk (.im (.pr .rat (.pr .rat .rat)) (.p (.n 536870904) (.p (.n 536870904) (.n 536870904))))) (.h 27 7 (.ext Ew) (.nil)))))))) (.pre 999999 (.frz 90002 true [4]) (.nil)))))))), kcast (by kernel_rfl) (And.intro (fun (h1 : decide (qy a = (0, 0, 0)) = true) => ((if_pos (.inl (yd h1))).symm : [] = qq a b_)) (fun (h2 : ¬ (decide (qy a = (0, 0, 0)) = true)) => And.intro (fun (h3 : decide (qy b_ = (0, 0, 0)) = true) => ((if_pos (.inr (yd h3))).symm : [] = qq a b_)) (fun (h4 : ¬ (decide (qy b_ = (0, 0, 0)) = true)) => I (rfl : qH (upP (qd b_) b_.2.2 b_.1) (qH (upP (qd b_) b_.2.1 b_.2.2) (qH (upP (qd b_) b_.1 b_.2.1) (qH (oppP (qd b_)) (qH (qd b_) [a.1, a.2.1, a.2.2])))) = (qa a b_)) (I (Qo hp0 hp1 : Bnd (.sl (.pr .rat (.pr .rat .rat))) (.s 255 (.p (.n 536870904) (.p (.n 536870904) (.n 536870904)))) (qa a b_)) (have hcl := (zC a b_).2; I (rfl : 0 = ([] : List (Rat × Rat × Rat)).length) (I (⟨rfl, Nat.zero_le _⟩ : ([] : List (Rat × Rat × Rat)) = rcN (qa a b_) 0 ∧ 0 ≤ (qa a b_).length) (fun (i : Nat) (out : List (Rat × Rat × Rat)) (hb5 : HB [.s 9 (.nat .i64) (.n 256), .g 8 90002 (.pr .rat (.pr .rat .rat)) (.p (.n 536870904) (.p (.n 536870904) (.n 536870904))) 255] (i, out)) (hI : out = rcN (qa a b_) i ∧ i ≤ (qa a b_).length) => have hv44 := (show i ≤ 256 from hb5.1); have hv45 := (show out.length ≤ 255 from hb5.2.1); have hol := (show out.length ≤ i from hI.1 ▸ JN _ _); And.intro (fun (h6 : i < (qa a b_).length) => I (⟨KpI.start, Nat.zero_le _⟩ : KpI (qa a b_) i 0 true ∧ 0 ≤ (qa a b_).length) (fun (j : Nat) (q : Bool) (hb7 : HB [.s 11 (.nat .i64) (.n 256), .s 10 .bool .u] (j, q)) (hJ : KpI (qa a b_) i j q ∧ j ≤ (qa a b_).length) => have hv42 := (show j ≤ 256 from hb7.1); have hjl := hJ.2; And.intro (fun (h8 : j < (qa a b_).length) => And.intro (fun (h9 : q = true) => And.intro (fun (h10 : i ≤ j) => I (⟨KpJ.start hJ.1 h9 (kj_t h10), Nat.zero_le _⟩ : KpJ (qa a b_) i j 0 true ∧ 0 ≤ (qa a b_).length) (fun (k : Nat) (q2 : Bool) (hb11 : HB [.s 12 (.nat .i64) (.n 256), .s 10 .bool .u] (k, q2)) (hK : KpJ (qa a b_) i j k q2 ∧ k ≤ (qa a b_).length) => have hv16 := (show k ≤ 256 from hb11.1); have hkl := hK.2; And.intro (fun (h12 : k < (qa a b_).length) => And.intro (fun (h13 : q2 = true) => I (by omega : j < (qa a b_).length) (I (by omega : k < (qa a b_).length) (I (by omega : i < (qa a b_).length) (I (show (k + 1) ≤ 256 by omega : Bnd (.nat .i64) (.n 256) (k + 1)) (And.intro (⟨hK.1.step h13, by omega⟩ : KpJ (qa a b_) i j (k + 1) (!(decide (insQ ((qa a b_).getD j (0, (0, 0))) ((qa a b_).getD k (0, (0, 0))) ((qa a b_).getD i (0, (0, 0)))))) ∧ (k + 1) ≤ (qa a b_).length) (by omega : (qa a b_).length - (k + 1) < (qa a b_).length - k)))))) (fun (h14 : ¬ (q2 = true)) => I (show (j + 1) ≤ 256 by omega : Bnd (.nat .i64) (.n 256) (j + 1)) (And.intro (⟨hK.1.stop (.inr h14) hK.2, by omega⟩ : KpI (qa a b_) i (j + 1) q2 ∧ (j + 1) ≤ (qa a b_).length) (by omega : (qa a b_).length - (j + 1) < (qa a b_).length - j)))) (fun (h15 : ¬ (k < (qa a b_).length)) => I (show (j + 1) ≤ 256 by omega : Bnd (.nat .i64) (.n 256) (j + 1)) (And.intro (⟨hK.1.stop (.inl (by omega)) hK.2, by omega⟩ : KpI (qa a b_) i (j + 1) q2 ∧ (j + 1) ≤ (qa a b_).length) (by omega : (qa a b_).length - (j + 1) < (qa a b_).length - j))))) (fun (h17 : ¬ (i ≤ j)) => I (by omega : i < (qa a b_).length) (I (by omega : j < (qa a b_).length) (I (⟨KpJ.start hJ.1 h9 (kj_r (by omega)), Nat.zero_le _⟩ : KpJ (qa a b_) i j 0 (!(decide (((qa a b_).getD i (0, (0, 0))) = ((qa a b_).getD j (0, (0, 0)))))) ∧ 0 ≤ (qa a b_).length) (fun (k : Nat) (q2 : Bool) (hb18 : HB [.s 12 (.nat .i64) (.n 256), .s 10 .bool .u] (k, q2)) (hK : KpJ (qa a b_) i j k q2 ∧ k ≤ (qa a b_).length) => have hv23 := (show k ≤ 256 from hb18.1); have hkl := hK.2; And.intro (fun (h19 : k < (qa a b_).length) => And.intro (fun (h20 : q2 = true) => I (by omega : j < (qa a b_).length) (I (by omega : k < (qa a b_).length) (I (by omega : i < (qa a b_).length) (I (show (k + 1) ≤ 256 by omega : Bnd (.nat .i64) (.n 256) (k + 1)) (And.intro (⟨hK.1.step h20, by omega⟩ : KpJ (qa a b_) i j (k + 1) (!(decide (insQ ((qa a b_).getD j (0, (0, 0))) ((qa a b_).getD k (0, (0, 0))) ((qa a b_).getD i (0, (0, 0)))))) ∧ (k + 1) ≤ (qa a b_).length) (by omega : (qa a b_).length - (k + 1) < (qa a b_).length - k)))))) (fun (h21 : ¬ (q2 = true)) => I (show (j + 1) ≤ 256 by omega : Bnd (.nat .i64) (.n 256) (j + 1)) (And.intro (⟨hK.1.stop (.inr h21) hK.2, by omega⟩ : KpI (qa a b_) i (j + 1) q2 ∧ (j + 1) ≤ (qa a b_).length) (by omega : (qa a b_).length - (j + 1) < (qa a b_).length - j)))) (fun (h22 : ¬ (k < (qa a b_).length)) => I (show (j + 1) ≤ 256 by omega : Bnd (.nat .i64) (.n 256) (j + 1)) (And.intro (⟨hK.1.stop (.inl (by omega)) hK.2, by omega⟩ : KpI (qa a b_) i (j + 1) q2 ∧ (j + 1) ≤ (qa a b_).length) (by omega : (qa a b_).length - (j + 1) < (qa a b_).length - j)))))))) (fun (h24 : ¬ (q = true)) => And.intro (fun (h25 : (!q) = true) => I (show (i + 1) ≤ 256 by omega : Bnd (.nat .i64) (.n 256) (i + 1)) (I (by omega : out.length = out.length) (And.intro (⟨rc_n hI.1 (hJ.1.stop (.inr h24) hJ.2) (nq h25), by omega⟩ : out = rcN (qa a b_) (i + 1) ∧ (i + 1) ≤ (qa a b_).length) (by omega : (qa a b_).length - (i + 1) < (qa a b_).length - i)))) (fun (h26 : ¬ ((!q) = true)) => I (PoR.start _ _ : PoR ((qa a b_).getD i z3) out out.length) (fun (r : Nat) (hb27 : HB [.s 13 (.nat .i64) (.n 256)] r) (hR : PoR ((qa a b_).getD i z3) out r) => have hv32 := (show r ≤ 256 from hb27); have hrl := hR.2; And.intro (fun (h28 : 0 < r) => I (by omega : i < (qa a b_).length) (I (by omega : 1 ≤ r) (I (by omega : r - 1 < out.length) (I (by omega : r - 1 < out.length) (And.intro (fun (h29 : decide (cpV ((qa a b_).getD i (0, (0, 0))) (out.getD (r - 1) (0, (0, 0))) < 0) = true) => I (by omega : 1 ≤ r) (And.intro (hR.step (by omega) (yd h29) : PoR ((qa a b_).getD i z3) out (r - 1)) (by omega : (r - 1) < r))) (fun (h30 : ¬ (decide (cpV ((qa a b_).getD i (0, (0, 0))) (out.getD (r - 1) (0, (0, 0))) < 0) = true)) => I (by omega : out.length = out.length) (I (by (try simp only [List.length_append, List.length_cons, List.length_nil]) <;> omega : r + 1 ≤ out.length + [(0, 0, 0)].length) (I (by (try simp only [List.length_append, List.length_cons, List.length_nil]) <;> omega : out.length + [(0, 0, 0)].length ≤ (out ++ [(0, 0, 0)]).length) (I (by (try simp only [List.length_append, List.length_cons, List.length_nil]) <;> omega : r ≤ out.length + [(0, 0, 0)].length) (I (by (try simp only [List.length_append, List.length_cons, List.length_nil]) <;> omega : out.length + [(0, 0, 0)].length ≤ (out ++ [(0, 0, 0)]).length) (I (by (try simp only [List.length_append, List.length_cons, List.length_nil]) <;> omega : (r + 1) + ((out.length + [(0, 0, 0)].length) - (r + 1)) ≤ (out ++ [(0, 0, 0)]).length) (I (by (try simp only [List.length_append, List.length_cons, List.length_nil]) <;> omega : r + ((out.length + [(0, 0, 0)].length) - r) ≤ (out ++ [(0, 0, 0)]).length) (I (by omega : i < (qa a b_).length) (I (by (try simp only [List.length_append, List.length_cons, List.length_nil]) <;> omega : r < out.length + [(0, 0, 0)].length) (I (GO (by omega) : r < (cpyL (out ++ [(0, 0, 0)]) (r + 1) r (min ((out.length + [(0, 0, 0)].length) - r) ((out.length + [(0, 0, 0)].length) - (r + 1)))).length) (I (show (i + 1) ≤ 256 by omega : Bnd (.nat .i64) (.n 256) (i + 1)) (I (GP (by omega) : out.length + [(0, 0, 0)].length = ((cpyL (out ++ [(0, 0, 0)]) (r + 1) r (min ((out.length + [(0, 0, 0)].length) - r) ((out.length + [(0, 0, 0)].length) - (r + 1)))).set r ((qa a b_).getD i (0, (0, 0)))).length) (I (by (try simp only [List.length_append, List.length_cons, List.length_nil]) <;> omega : out.length + [(0, 0, 0)].length ≤ 255) (And.intro (⟨(D6 (hR.pos (.inr (yd' h30))) hR.2).trans (rc_y hI.1 (hJ.1.stop (.inr h24) hJ.2) (nq' h26)), by omega⟩ : ((cpyL (out ++ [(0, 0, 0)]) (r + 1) r (min ((out.length + [(0, 0, 0)].length) - r) ((out.length + [(0, 0, 0)].length) - (r + 1)))).set r ((qa a b_).getD i (0, (0, 0)))) = rcN (qa a b_) (i + 1) ∧ (i + 1) ≤ (qa a b_).length) (by omega : (qa a b_).length - (i + 1) < (qa a b_).length - i)))))))))))))))))))) (fun (h31 : ¬ (0 < r)) => I (by omega : out.length = out.length) (I (by (try simp only [List.length_append, List.length_cons, List.length_nil]) <;> omega : r + 1 ≤ out.length + [(0, 0, 0)].length) (I (by (try simp only [List.length_append, List.length_cons, List.length_nil]) <;> omega : out.length + [(0, 0, 0)].length ≤ (out ++ [(0, 0, 0)]).length) (I (by (try simp only [List.length_append, List.length_cons, List.length_nil]) <;> omega : r ≤ out.length + [(0, 0, 0)].length) (I (by (try simp only [List.length_append, List.length_cons, List.length_nil]) <;> omega : out.length + [(0, 0, 0)].length ≤ (out ++ [(0, 0, 0)]).length) (I (by (try simp only [List.length_append, List.length_cons, List.length_nil]) <;> omega : (r + 1) + ((out.length + [(0, 0, 0)].length) - (r + 1)) ≤ (out ++ [(0, 0, 0)]).length) (I (by (try simp only [List.length_append, List.length_cons, List.length_nil]) <;> omega : r + ((out.length + [(0, 0, 0)].length) - r) ≤ (out ++ [(0, 0, 0)]).length) (I (by omega : i < (qa a b_).length) (I (by (try simp only [List.length_append, List.length_cons, List.length_nil]) <;> omega : r < out.length + [(0, 0, 0)].length) (I (GO (by omega) : r < (cpyL (out ++ [(0, 0, 0)]) (r + 1) r (min ((out.length + [(0, 0, 0)].length) - r) ((out.length + [(0, 0, 0)].length) - (r + 1)))).length) (I (show (i + 1) ≤ 256 by omega : Bnd (.nat .i64) (.n 256) (i + 1)) (I (GP (by omega) : out.length + [(0, 0, 0)].length = ((cpyL (out ++ [(0, 0, 0)]) (r + 1) r (min ((out.length + [(0, 0, 0)].length) - r) ((out.length + [(0, 0, 0)].length) - (r + 1)))).set r ((qa a b_).getD i (0, (0, 0)))).length) (I (by (try simp only [List.length_append, List.length_cons, List.length_nil]) <;> omega : out.length + [(0, 0, 0)].length ≤ 255) (And.intro (⟨(D6 (hR.pos (.inl h31)) hR.2).trans (rc_y hI.1 (hJ.1.stop (.inr h24) hJ.2) (nq' h26)), by omega⟩ : ((cpyL (out ++ [(0, 0, 0)]) (r + 1) r (min ((out.length + [(0, 0, 0)].length) - r) ((out.length + [(0, 0, 0)].length) - (r + 1)))).set r ((qa a b_).getD i (0, (0, 0)))) = rcN (qa a b_) (i + 1) ∧ (i + 1) ≤ (qa a b_).length) (by omega : (qa a b_).length - (i + 1) < (qa a b_).length - i))))))))))))))))))) (fun (h33 : ¬ (j < (qa a b_).length)) => And.intro (fun (h34 : (!q) = true) => I (show (i + 1) ≤ 256 by omega : Bnd (.nat .i64) (.n 256) (i + 1)) (I (by omega : out.length = out.length) (And.intro (⟨rc_n hI.1 (hJ.1.stop (.inl (by omega)) hJ.2) (nq h34), by omega⟩ : out = rcN (qa a b_) (i + 1) ∧ (i + 1) ≤ (qa a b_).length) (by omega : (qa a b_).length - (i + 1) < (qa a b_).length - i)))) (fun (h35 : ¬ ((!q) = true)) => I (PoR.start _ _ : PoR ((qa a b_).getD i z3) out out.length) (fun (r : Nat) (hb36 : HB [.s 13 (.nat .i64) (.n 256)] r) (hR : PoR ((qa a b_).getD i z3) out r) => have hv41 := (show r ≤ 256 from hb36); have hrl := hR.2; And.intro (fun (h37 : 0 < r) => I (by omega : i < (qa a b_).length) (I (by omega : 1 ≤ r) (I (by omega : r - 1 < out.length) (I (by omega : r - 1 < out.length) (And.intro (fun (h38 : decide (cpV ((qa a b_).getD i (0, (0, 0))) (out.getD (r - 1) (0, (0, 0))) < 0) = true) => I (by omega : 1 ≤ r) (And.intro (hR.step (by omega) (yd h38) : PoR ((qa a b_).getD i z3) out (r - 1)) (by omega : (r - 1) < r))) (fun (h39 : ¬ (decide (cpV ((qa a b_).getD i (0, (0, 0))) (out.getD (r - 1) (0, (0, 0))) < 0) = true)) => I (by omega : out.length = out.length) (I (by (try simp only [List.length_append, List.length_cons, List.length_nil]) <;> omega : r + 1 ≤ out.length + [(0, 0, 0)].length) (I (by (try simp only [List.length_append, List.length_cons, List.length_nil]) <;> omega : out.length + [(0, 0, 0)].length ≤ (out ++ [(0, 0, 0)]).length) (I (by (try simp only [List.length_append, List.length_cons, List.length_nil]) <;> omega : r ≤ out.length + [(0, 0, 0)].length) (I (by (try simp only [List.length_append, List.length_cons, List.length_nil]) <;> omega : out.length + [(0, 0, 0)].length ≤ (out ++ [(0, 0, 0)]).length) (I (by (try simp only [List.length_append, List.length_cons, List.length_nil]) <;> omega : (r + 1) + ((out.length + [(0, 0, 0)].length) - (r + 1)) ≤ (out ++ [(0, 0, 0)]).length) (I (by (try simp only [List.length_append, List.length_cons, List.length_nil]) <;> omega : r + ((out.length + [(0, 0, 0)].length) - r) ≤ (out ++ [(0, 0, 0)]).length) (I (by omega : i < (qa a b_).length) (I (by (try simp only [List.length_append, List.length_cons, List.length_nil]) <;> omega : r < out.length + [(0, 0, 0)].length) (I (GO (by omega) : r < (cpyL (out ++ [(0, 0, 0)]) (r + 1) r (min ((out.length + [(0, 0, 0)].length) - r) ((out.length + [(0, 0, 0)].length) - (r + 1)))).length) (I (show (i + 1) ≤ 256 by omega : Bnd (.nat .i64) (.n 256) (i + 1)) (I (GP (by omega) : out.length + [(0, 0, 0)].length = ((cpyL (out ++ [(0, 0, 0)]) (r + 1) r (min ((out.length + [(0, 0, 0)].length) - r) ((out.length + [(0, 0, 0)].length) - (r + 1)))).set r ((qa a b_).getD i (0, (0, 0)))).length) (I (by (try simp only [List.length_append, List.length_cons, List.length_nil]) <;> omega : out.length + [(0, 0, 0)].length ≤ 255) (And.intro (⟨(D6 (hR.pos (.inr (yd' h39))) hR.2).trans (rc_y hI.1 (hJ.1.stop (.inl (by omega)) hJ.2) (nq' h35)), by omega⟩ : ((cpyL (out ++ [(0, 0, 0)]) (r + 1) r (min ((out.length + [(0, 0, 0)].length) - r) ((out.length + [(0, 0, 0)].length) - (r + 1)))).set r ((qa a b_).getD i (0, (0, 0)))) = rcN (qa a b_) (i + 1) ∧ (i + 1) ≤ (qa a b_).length) (by omega : (qa a b_).length - (i + 1) < (qa a b_).length - i)))))))))))))))))))) (fun (h40 : ¬ (0 < r)) => I (by omega : out.length = out.length) (I (by (try simp only [List.length_append, List.length_cons, List.length_nil]) <;> omega : r + 1 ≤ out.length + [(0, 0, 0)].length) (I (by (try simp only [List.length_append, List.length_cons, List.length_nil]) <;> omega : out.length + [(0, 0, 0)].length ≤ (out ++ [(0, 0, 0)]).length) (I (by (try simp only [List.length_append, List.length_cons, List.length_nil]) <;> omega : r ≤ out.length + [(0, 0, 0)].length) (I (by (try simp only [List.length_append, List.length_cons, List.length_nil]) <;> omega : out.length + [(0, 0, 0)].length ≤ (out ++ [(0, 0, 0)]).length) (I (by (try simp only [List.length_append, List.length_cons, List.length_nil]) <;> omega : (r + 1) + ((out.length + [(0, 0, 0)].length) - (r + 1)) ≤ (out ++ [(0, 0, 0)]).length) (I (by (try simp only [List.length_append, List.length_cons, List.length_nil]) <;> omega : r + ((out.length + [(0, 0, 0)].length) - r) ≤ (out ++ [(0, 0, 0)]).length) (I (by omega : i < (qa a b_).length) (I (by (try simp only [List.length_append, List.length_cons, List.length_nil]) <;> omega : r < out.length + [(0, 0, 0)].length) (I (GO (by omega) : r < (cpyL (out ++ [(0, 0, 0)]) (r + 1) r (min ((out.length + [(0, 0, 0)].length) - r) ((out.length + [(0, 0, 0)].length) - (r + 1)))).length) (I (show (i + 1) ≤ 256 by omega : Bnd (.nat .i64) (.n 256) (i + 1)) (I (GP (by omega) : out.length + [(0, 0, 0)].length = ((cpyL (out ++ [(0, 0, 0)]) (r + 1) r (min ((out.length + [(0, 0, 0)].length) - r) ((out.length + [(0, 0, 0)].length) - (r + 1)))).set r ((qa a b_).getD i (0, (0, 0)))).length) (I (by (try simp only [List.length_append, List.length_cons, List.length_nil]) <;> omega : out.length + [(0, 0, 0)].length ≤ 255) (And.intro (⟨(D6 (hR.pos (.inl h40)) hR.2).trans (rc_y hI.1 (hJ.1.stop (.inl (by omega)) hJ.2) (nq' h35)), by omega⟩ : ((cpyL (out ++ [(0, 0, 0)]) (r + 1) r (min ((out.length + [(0, 0, 0)].length) - r) ((out.length + [(0, 0, 0)].length) - (r + 1)))).set r ((qa a b_).getD i (0, (0, 0)))) = rcN (qa a b_) (i + 1) ∧ (i + 1) ≤ (qa a b_).length) (by omega : (qa a b_).length - (i + 1) < (qa a b_).length - i)))))))))))))))))))) (fun (h43 : ¬ (i < (qa a b_).length)) => I (by omega : out.length = out.length) ((((Vz hI.1 (by omega) hI.2).trans (if_neg (not_or.2 ⟨yd' h2, yd' h4⟩)).symm) : out = qq a b_))))))))))⟩)
abbrev Sr : Ctr Tryz.prog := FI.c St
abbrev O6 : FB := ⟨12, (.pr (.sl (.int .i64)) (.nat .i64)), (.p (.s 1048576 (.n 9223372036854775808)) (.n 1048576)), [], [], fun s z => [], fun tb b s z => .tup [.agg [.dt tT3 (bT3 64) (touA s)], .agg [.dt tT3 (bT3 64) (touB s)]], fun s z => touS s, fun tb b => .p tb.l (.n (max tb.r.nb tb.l.len))⟩
theorem O7 : O6.OK Tryz.prog := mkB' hmix 58 Tryz.func12 rfl rfl (by decide) [(18, .b Uc), (21, .c K3), (22, .c CU), (23, .c QJ), (24, .b Fv), (25, .c wW)] (fun _ => rfl) (fun _ _ => rfl) (fun _ _ _ _ => rfl) (fun (s : List Int × Nat)  tb b hs hx hp => ⟨Wi s, Wh hs⟩) (fun (s : List Int × Nat)  hs hx hp => by
 exact ⟨.loop [.s 6 (.int .i64) (.n 3), .r 5 (.pr (.pr .rat (.pr .rat .rat)) (.pr (.pr .rat (.pr .rat .rat)) (.pr .rat (.pr .rat .rat)))) (.p (.p (.n 5) (.p (.n 5) (.n 5))) (.p (.p (.n 5) (.p (.n 5) (.n 5))) (.p (.n 5) (.p (.n 5) (.n 5))))), .r 100000 (.pr (.sl (.int .i64)) (.nat .i64)) (.p (.s 1048576 (.n 9223372036854775808)) (.n 1048576))] (fun ((i, t, u) : Int × ((Rat × Rat × Rat) × (Rat × Rat × Rat) × Rat × Rat × Rat) × List Int × Nat) => touL (triV s) (i).toNat t u = jX s ∧ 0 ≤ i ∧ i ≤ 3) (fun ((i, t, u) : Int × ((Rat × Rat × Rat) × (Rat × Rat × Rat) × Rat × Rat × Rat) × List Int × Nat) => (i).toNat) (fun ((i, t, u) : Int × ((Rat × Rat × Rat) × (Rat × Rat × Rat) × Rat × Rat × Rat) × List Int × Nat) => .cond (.h 5 4 (.ext M4) (.h 5 5 (.ext (A8 (.pr .rat (.pr .rat .rat)) (.p (.n 5) (.p (.n 5) (.n 5))) 3)) (.h 5 6 (.ext M4) (.h 5 7 (.ext (Uf (.pr .rat (.pr .rat .rat)) (.p (.n 5) (.p (.n 5) (.n 5))) 3)) (.h 4 1 (.i (.z (i - 1) 3)) (.nil)))))) (.nil)), kcast (by kernel_rfl) (I (by omega : (0 : Int) < 3) (I (⟨rfl, (wO (triS (triS s)) (m := 3) (by omega)).1, by have := (wO (triS (triS s)) (m := 3) (by omega)).2; omega⟩ : touL (triV s) (qc (triS (triS s)) 3).toNat (triV (triS s)) (q6 (triS (triS s))) = jX s ∧ 0 ≤ qc (triS (triS s)) 3 ∧ qc (triS (triS s)) 3 ≤ 3) (fun (i : Int) (t : (Rat × Rat × Rat) × (Rat × Rat × Rat) × Rat × Rat × Rat) (u : List Int × Nat) (hb1 : HB [.s 6 (.int .i64) (.n 3), .r 5 (.pr (.pr .rat (.pr .rat .rat)) (.pr (.pr .rat (.pr .rat .rat)) (.pr .rat (.pr .rat .rat)))) (.p (.p (.n 5) (.p (.n 5) (.n 5))) (.p (.p (.n 5) (.p (.n 5) (.n 5))) (.p (.n 5) (.p (.n 5) (.n 5))))), .r 100000 (.pr (.sl (.int .i64)) (.nat .i64)) (.p (.s 1048576 (.n 9223372036854775808)) (.n 1048576))] (i, t, u)) (hI : touL (triV s) (i).toNat t u = jX s ∧ 0 ≤ i ∧ i ≤ 3) => have hv8 := (show Int.natAbs i ≤ 3 from hb1.1); And.intro (fun (h2 : 0 < i) => have hn1 := (wO u (m := 3) (by omega)); have hn2 := (wO (q6 u) (m := 3) (by omega)); I (by omega : (0 : Int) < 3) (I (by omega : (0 : Int) < 3) (I (by omega : (0 : Int) ≤ qc (q6 u) 3) (I (by omega : qc (q6 u) 3 < (3 : Int)) (I (by omega : (qc (q6 u) 3).toNat < 3) (I (by omega : (0 : Int) ≤ qc u 3) (I (by omega : qc u 3 < (3 : Int)) (I (by omega : (qc u 3).toNat < 3) (I (NS rfl (by omega) : qx .sub .i64 i 1 (i - 1)) (I (by omega : Int.natAbs (i - 1) ≤ 3) (And.intro (⟨(Wg (by omega)).symm.trans hI.1, by omega, by omega⟩ : touL (triV s) (i - 1).toNat (([t.1, t.2.1, t.2.2].set ((qc u 3).toNat) ([(triV s).1, ((triV s).2).1, ((triV s).2).2].getD ((qc (q6 u) 3).toNat) (0, (0, 0)))).getD 0 (0, (0, 0)), ([t.1, t.2.1, t.2.2].set ((qc u 3).toNat) ([(triV s).1, ((triV s).2).1, ((triV s).2).2].getD ((qc (q6 u) 3).toNat) (0, (0, 0)))).getD 1 (0, (0, 0)), ([t.1, t.2.1, t.2.2].set ((qc u 3).toNat) ([(triV s).1, ((triV s).2).1, ((triV s).2).2].getD ((qc (q6 u) 3).toNat) (0, (0, 0)))).getD 2 (0, (0, 0))) (q6 (q6 u)) = jX s ∧ 0 ≤ i - 1 ∧ i - 1 ≤ 3) (by omega : (i - 1).toNat < (i).toNat)))))))))))) (fun (h3 : ¬ (0 < i)) => I (by omega : (0 : Int) < 5) (And.intro (fun (h4 : qc u 5 = 0) => I (by omega : (0 : Int) < 99) (And.intro ((L7 hI.1 h3 h4).1 : q6 (q6 u) = touS s) (And.intro ((L7 hI.1 h3 h4).2.1 : triV s = touA s) ((L7 hI.1 h3 h4).2.2 : (addV ((triV s).1) (qh (ER (qc (q6 u) 99)) (subV (((triV s).2).1) ((triV s).1))), t.2) = touB s)))) (fun (h5 : ¬ (qc u 5 = 0)) => And.intro (fun (h6 : qc u 5 = 1) => And.intro ((L8 hI.1 h3 h5 h6).1 : q6 u = touS s) (And.intro ((L8 hI.1 h3 h5 h6).2.1 : ((((triV s).1).1, (((triV s).1).2).1, 0), ((((triV s).2).1).1, ((((triV s).2).1).2).1, 0), (((triV s).2).2).1, ((((triV s).2).2).2).1, 0) = touA s) ((L8 hI.1 h3 h5 h6).2.2 : ((t.1.1, t.1.2.1, 0), (t.2.1.1, t.2.1.2.1, 0), t.2.2.1, t.2.2.2.1, 0) = touB s))) (fun (h7 : ¬ (qc u 5 = 1)) => And.intro ((L9 hI.1 h3 h5 h7).1 : q6 u = touS s) (And.intro ((L9 hI.1 h3 h5 h7).2.1 : triV s = touA s) ((L9 hI.1 h3 h5 h7).2.2 : t = touB s)))))))))⟩)
abbrev O5 : CtrB Tryz.prog := FB.c O7
abbrev Oy : FI := ⟨3, [(.sl (.int .i64))], [(.s 9223372036854775807 (.n 9223372036854775808))], fun _ => [], fun b z => .c (.one (.dt .bool .u true))⟩
theorem Oz : Oy.OK Tryz.prog := mkF hmix 62 Tryz.func3 rfl rfl (by decide) [(9, .c Ry), (10, .c RM), (11, .o QM), (12, .b O5), (13, .c Jz), (14, .c Pi), (15, .c Sr), (16, .c Dw), (17, .c Ji)] (fun _ => rfl) (fun _ => rfl) (fun _ _ => rfl) (fun (l : List Int) b hx hp => qe trivial rfl) (fun (l : List Int) hx hp => by
 have hl0 : l.length ≤ 9223372036854775807 := hx.1
 have he0 : ∀ u ∈ l, Bnd (.int .i64) (.n 9223372036854775808) u := hx.2
 exact ⟨.cond (.nil) (.pre 3 (.bd 0 (.s 1048576 (.n 9223372036854775808))) (.loop [.s 4 (.nat .i64) (.n 3), .r 15 (.pr (.sl (.int .i64)) (.nat .i64)) (.p (.s 1048576 (.n 9223372036854775808)) (.n 1048576))] (fun ((i, d) : Nat × List Int × Nat) => i ≤ 3) (fun ((i, d) : Nat × List Int × Nat) => 3 - i) (fun ((i, d) : Nat × List Int × Nat) => .cond (.cond (.dead) (.cond (.dead) (.loop [.s 44 (.nat .i64) (.n 97)] (fun (j : Nat) => j ≤ (qq (touA d) (touB d)).length) (fun (j : Nat) => (qq (touA d) (touB d)).length - j) (fun (j : Nat) => .cond (.cond (.dead) (.cond (.dead) (.nil))) (.nil))))) (.nil)))), kcast (by kernel_rfl) (And.intro (fun (h1 : (!(decide (l.length ≤ 500))) = true) => (Eq.refl true)) (fun (h2 : ¬ ((!(decide (l.length ≤ 500))) = true)) => have hl5 := (nd' h2 : l.length ≤ 500); I (⟨by omega, he0⟩ : Bnd (.sl (.int .i64)) (.s 1048576 (.n 9223372036854775808)) l) (I (Nat.zero_le _ : 0 ≤ 3) (fun (i : Nat) (d : List Int × Nat) (hb3 : HB [.s 4 (.nat .i64) (.n 3), .r 15 (.pr (.sl (.int .i64)) (.nat .i64)) (.p (.s 1048576 (.n 9223372036854775808)) (.n 1048576))] (i, d)) (hI : i ≤ 3) => have hv18 := (show i ≤ 3 from hb3.1); And.intro (fun (h4 : i < 3) => have hcl := (NX (touA d) (touB d)); I (F5 d : Bnd tT3 (bT3 64) (touA d)) (I (F6 d : Bnd tT3 (bT3 64) (touB d)) (I (Nat.le_trans (zC _ _).2 (by decide) : (qa (touA d) (touB d)).length ≤ 12) (I (F5 d : Bnd tT3 (bT3 64) (touA d)) (I (F6 d : Bnd tT3 (bT3 64) (touB d)) (And.intro (fun (h5 : (!(decide ((qq (touA d) (touB d)) = (qq (touA d) (touB d))))) = true) => (nd h5 rfl : False)) (fun (h6 : ¬ ((!(decide ((qq (touA d) (touB d)) = (qq (touA d) (touB d))))) = true)) => I (F6 d : Bnd tT3 (bT3 64) (touB d)) (I (F5 d : Bnd tT3 (bT3 64) (touA d)) (I (Nat.le_trans (zC _ _).2 (by decide) : (qa (touB d) (touA d)).length ≤ 12) (And.intro (fun (h7 : (!(decide ((qq (touA d) (touB d)) = (qq (touB d) (touA d))))) = true) => (nd h7 (Kl _ _) : False)) (fun (h8 : ¬ ((!(decide ((qq (touA d) (touB d)) = (qq (touB d) (touA d))))) = true)) => I (Nat.zero_le _ : 0 ≤ (qq (touA d) (touB d)).length) (fun (j : Nat) (hb9 : HB [.s 44 (.nat .i64) (.n 97)] j) (hJ : j ≤ (qq (touA d) (touB d)).length) => have hv16 := (show j ≤ 97 from hb9); And.intro (fun (h10 : j < (qq (touA d) (touB d)).length) => I (by omega : j < (qq (touA d) (touB d)).length) (And.intro (fun (h11 : sgnQ (j9 (touA d) ((qq (touA d) (touB d)).getD j (0, (0, 0)))) ≠ 0) => (h11 (Nc (Gg (by omega)).1) : False)) (fun (h12 : ¬ (sgnQ (j9 (touA d) ((qq (touA d) (touB d)).getD j (0, (0, 0)))) ≠ 0)) => And.intro (fun (h13 : sgnQ (j9 (touB d) ((qq (touA d) (touB d)).getD j (0, (0, 0)))) ≠ 0) => (h13 (Nc (Gg (by omega)).2) : False)) (fun (h14 : ¬ (sgnQ (j9 (touB d) ((qq (touA d) (touB d)).getD j (0, (0, 0)))) ≠ 0)) => I (show (j + 1) ≤ 97 by omega : Bnd (.nat .i64) (.n 97) (j + 1)) (And.intro (by omega : (j + 1) ≤ (qq (touA d) (touB d)).length) (by omega : (qq (touA d) (touB d)).length - (j + 1) < (qq (touA d) (touB d)).length - j)))))) (fun (h15 : ¬ (j < (qq (touA d) (touB d)).length)) => I (show (i + 1) ≤ 3 by omega : Bnd (.nat .i64) (.n 3) (i + 1)) (And.intro (by omega : (i + 1) ≤ 3) (by omega : 3 - (i + 1) < 3 - i))))))))))))))) (fun (h17 : ¬ (i < 3)) => (Eq.refl true))))))⟩)
abbrev Ox (b : List Bd) (l : List Int) : WV := .c (.one (.dt .bool .u true))
theorem lmcomm_sig (l : List Int) (hx : Bnds [(.sl (.int .i64))] [(.s 9223372036854775807 (.n 9223372036854775808))] l) (hp : ∀ c0 ∈ ([] : List Prop), c0) : Sig Tryz.prog 3 (argsE [(.sl (.int .i64))] l) (Ox [(.s 9223372036854775807 (.n 9223372036854775808))] l).exp := Oz.sig l hx hp
end Go.Proofs.YtchgnllhbcadpaaGreat.Sx
