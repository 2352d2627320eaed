/- The contracts of package sum's methods over this seat's translation, at sums of whole parts: Plus, Less, Times, Fits, Of. -/
import Derived.Test.YtjjdnmlfhankjaaSum
namespace Go.Proofs.Ytjjdnmlfhankjaa
open Go.RowKit Flt

/-- Both are parts that may be. -/
@[irreducible] def okS (a b : Int) : Bool := decide (0 ≤ a ∧ a ≤ 1099511627776 ∧ 0 ≤ b ∧ b ≤ 1099511627776)
@[irreducible] def rE (a b : Int) : Int := if okS a b then 0 else 12
@[irreducible] def rB (a b : Int) : Int := if okS a b then a else 0
@[irreducible] def rP (a b : Int) : Int := if okS a b then b else 0

theorem okS_iff {a b : Int} : okS a b = true ↔ 0 ≤ a ∧ a ≤ 1099511627776 ∧ 0 ≤ b ∧ b ≤ 1099511627776 := by unfold okS; exact decide_eq_true_iff
theorem okS_r (a b : Int) : okS (rB a b) (rP a b) = true := by
  unfold rB rP
  cases h : okS a b with
  | true => simpa using h
  | false => unfold okS; simp
theorem r_yes {a b : Int} (h : okS a b = true) : rB a b = a ∧ rP a b = b ∧ rE a b = 0 := by unfold rB rP rE; simp [h]
theorem r_no {a b : Int} (h : okS a b = false) : rB a b = 0 ∧ rP a b = 0 ∧ rE a b = 12 := by unfold rB rP rE; simp [h]

theorem right_F {a b : Int} (ha : a.natAbs < 2 ^ 53) (hb : b.natAbs < 2 ^ 53) : rightB (F a) (F b) = okS a b := by
  unfold rightB okS
  rw [wholeB_F ha, wholeB_F hb]
  by_cases h : 0 ≤ a ∧ a ≤ 1099511627776 <;> by_cases h' : 0 ≤ b ∧ b ≤ 1099511627776 <;> simp [h] <;> omega

theorem right_ok {a b : Int} (h : okS a b = true) : rightB (F a) (F b) = true := by
  have := okS_iff.1 h
  rw [right_F (by omega) (by omega)]; exact h

theorem chk_F {a b : Int} (ha : a.natAbs < 2 ^ 53) (hb : b.natAbs < 2 ^ 53) : F (rB a b) = cX true (F a) (F b) ∧ F (rP a b) = cY true (F a) (F b) ∧ rE a b = cE true (F a) (F b) := by
  have g := right_F ha hb
  cases h : okS a b with
  | true => obtain ⟨e1, e2, e3⟩ := r_yes h; obtain ⟨f1, f2, f3⟩ := c_yes (g.trans h); rw [e1, e2, e3, f1, f2, f3]; exact ⟨rfl, rfl, rfl⟩
  | false => obtain ⟨e1, e2, e3⟩ := r_no h; obtain ⟨f1, f2, f3⟩ := c_no (g.trans h); rw [e1, e2, e3, f1, f2, f3, F_zero]; exact ⟨rfl, rfl, rfl⟩




/-- One sum fits another one. -/
@[irreducible] def fitsB (a b c d : Int) : Bool := decide (a ≤ c ∧ b ≤ d)
theorem fitsB_iff {a b c d : Int} : fitsB a b c d = true ↔ a ≤ c ∧ b ≤ d := by unfold fitsB; exact decide_eq_true_iff

set_option maxHeartbeats 400000 in
theorem fits_F (a b c d : Int) (w : World) (h1 : okS a b = true) (h2 : okS c d = true) :
    Calls Try.prog 25 #[.complex .f64 (F a) (F b), .complex .f64 (F c) (F d)] w fun e w' => e = .returned (.bool (fitsB a b c d)) ∧ w' = w := by
  have g1 := okS_iff.1 h1
  have g2 := okS_iff.1 h2
  have r1 := right_ok h1
  have r2 := right_ok h2
  have o1 : (FloatKind.f64.format.order (F a) (F c) == some .lt || FloatKind.f64.format.order (F a) (F c) == some .eq) = decide (a ≤ c) := le_F (by omega) (by omega)
  have o2 : (FloatKind.f64.format.order (F b) (F d) == some .lt || FloatKind.f64.format.order (F b) (F d) == some .eq) = decide (b ≤ d) := le_F (by omega) (by omega)
  have e : fitsB a b c d = (decide (a ≤ c) && decide (b ≤ d)) := by unfold fitsB; simp
  rw [e]
  clear h1 h2 g1 g2 e
  generalize F a = fa at *
  generalize F b = fb at *
  generalize F c = fc at *
  generalize F d = fd at *
  generalize hx : decide (a ≤ c) = x at *
  generalize hy : decide (b ≤ d) = y at *
  clear hx hy
  cases x <;> cases y
  all_goals
    go_enter Try.func25, Try.ntmps25
    go_wp2_with (go_at_call 29; refine (right_any _ _ _).mono ?_; rintro e w' ⟨rfl, rfl⟩)
    go_ret
    exact ⟨rfl, rfl⟩

theorem bytes_F (a b : Int) (w : World) (h : okS a b = true) :
    Calls Try.prog 16 #[.complex .f64 (F a) (F b)] w fun e w' => e = .returned (.int .i64 a) ∧ w' = w := by
  have g := okS_iff.1 h
  refine (sumBytes_any _ _ w).mono ?_
  rintro e w' ⟨rfl, rfl⟩
  rw [right_ok h, intOfF_F (by omega)]
  exact ⟨rfl, rfl⟩

theorem pages_F (a b : Int) (w : World) (h : okS a b = true) :
    Calls Try.prog 17 #[.complex .f64 (F a) (F b)] w fun e w' => e = .returned (.int .i64 b) ∧ w' = w := by
  have g := okS_iff.1 h
  refine (sumPages_any _ _ w).mono ?_
  rintro e w' ⟨rfl, rfl⟩
  rw [right_ok h, intOfF_F (n := b) (by omega)]
  exact ⟨rfl, rfl⟩

theorem rightF_any (a b : Int) (w : World) (h : okS a b = true) :
    Calls Try.prog 29 #[.complex .f64 (F a) (F b)] w fun e w' => e = .returned (.bool true) ∧ w' = w := by
  refine (right_any _ _ w).mono ?_
  rintro e w' ⟨rfl, rfl⟩
  rw [right_ok h]
  exact ⟨rfl, rfl⟩


end Go.Proofs.Ytjjdnmlfhankjaa
