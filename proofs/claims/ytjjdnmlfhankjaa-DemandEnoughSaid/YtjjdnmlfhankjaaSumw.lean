/- More contracts of package sum over this seat's translation: with the outcome known; 'awake' of this chapter answers true. -/
import Derived.Test.YtjjdnmlfhankjaaSumb
namespace Go.Proofs.Ytjjdnmlfhankjaa
open Go.RowKit Flt

theorem fits_yes (a b c d : Int) (w : World) (h1 : okS a b = true) (h2 : okS c d = true) (h : a ≤ c ∧ b ≤ d) :
    Calls Try.prog 25 #[.complex .f64 (F a) (F b), .complex .f64 (F c) (F d)] w fun e w' => e = .returned (.bool true) ∧ w' = w := by
  have := fits_F a b c d w h1 h2
  rwa [fitsB_iff.2 h] at this

theorem fits_no (a b c d : Int) (w : World) (h1 : okS a b = true) (h2 : okS c d = true) (h : ¬ (a ≤ c ∧ b ≤ d)) :
    Calls Try.prog 25 #[.complex .f64 (F a) (F b), .complex .f64 (F c) (F d)] w fun e w' => e = .returned (.bool false) ∧ w' = w := by
  have := fits_F a b c d w h1 h2
  rwa [show fitsB a b c d = false by rw [← Bool.not_eq_true, fitsB_iff]; exact h] at this







theorem ok_lit {a b : Int} (h : 0 ≤ a ∧ a ≤ 1099511627776 ∧ 0 ≤ b ∧ b ≤ 1099511627776) : okS a b = true := okS_iff.2 h
theorem ok_not {a b : Int} (h : ¬ (0 ≤ a ∧ a ≤ 1099511627776 ∧ 0 ≤ b ∧ b ≤ 1099511627776)) : okS a b = false := by
  rw [← Bool.not_eq_true, okS_iff]; exact h

/-- '==' on two sums. -/
theorem eql_FF {a b c d : Int} (h1 : okS a b = true) (h2 : okS c d = true) :
    ((FloatKind.f64.format.order (F a) (F c) == some .eq) && (FloatKind.f64.format.order (F b) (F d) == some .eq)) = decide (a = c ∧ b = d) := by
  have g1 := okS_iff.1 h1
  have g2 := okS_iff.1 h2
  rw [show FloatKind.f64.format = Ieee.double from rfl, eq_F (a := a) (b := c) (by omega) (by omega), eq_F (a := b) (b := d) (by omega) (by omega)]
  simp

end Go.Proofs.Ytjjdnmlfhankjaa
