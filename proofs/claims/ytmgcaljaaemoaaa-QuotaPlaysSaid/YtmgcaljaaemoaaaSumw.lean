/- More contracts of package sum over this seat's translation: with the outcome known; 'awake' of this chapter answers true. -/
import Derived.Test.YtmgcaljaaemoaaaSumb
namespace Go.Proofs.Ytmgcaljaaemoaaa
open Go.RowKit Flt

theorem fits_yes (a b c d : Int) (w : World) (h1 : okS a b = true) (h2 : okS c d = true) (h : a ≤ c ∧ b ≤ d) :
    Calls Try.prog 18 #[.complex .f64 (F a) (F b), .complex .f64 (F c) (F d)] w fun e w' => e = .returned (.bool true) ∧ w' = w := by
  have := fits_F a b c d w h1 h2
  rwa [fitsB_iff.2 h] at this

theorem fits_no (a b c d : Int) (w : World) (h1 : okS a b = true) (h2 : okS c d = true) (h : ¬ (a ≤ c ∧ b ≤ d)) :
    Calls Try.prog 18 #[.complex .f64 (F a) (F b), .complex .f64 (F c) (F d)] w fun e w' => e = .returned (.bool false) ∧ w' = w := by
  have := fits_F a b c d w h1 h2
  rwa [show fitsB a b c d = false by rw [← Bool.not_eq_true, fitsB_iff]; exact h] at this

theorem plus_yes (a b c d : Int) (w : World) (h1 : okS a b = true) (h2 : okS c d = true) (h3 : okS (a + c) (b + d) = true) :
    Calls Try.prog 17 #[.complex .f64 (F a) (F b), .complex .f64 (F c) (F d)] w fun e w' =>
      e = .returned (.tuple #[.complex .f64 (F (a + c)) (F (b + d)), .int .i64 0]) ∧ w' = w := by
  have := plus_F a b c d w h1 h2
  obtain ⟨e1, e2, e3⟩ := r_yes h3
  rwa [e1, e2, e3] at this

theorem plus_no (a b c d : Int) (w : World) (h1 : okS a b = true) (h2 : okS c d = true) (h3 : okS (a + c) (b + d) = false) :
    Calls Try.prog 17 #[.complex .f64 (F a) (F b), .complex .f64 (F c) (F d)] w fun e w' =>
      e = .returned (.tuple #[.complex .f64 0 0, .int .i64 12]) ∧ w' = w := by
  have := plus_F a b c d w h1 h2
  obtain ⟨e1, e2, e3⟩ := r_no h3
  rwa [e1, e2, e3, F_zero] at this



theorem of_no' (a b : Int) (w : World) (h : okS a b = false) :
    Calls Try.prog 23 #[.int .i64 a, .int .i64 b] w fun e w' => e = .returned (.tuple #[.complex .f64 0 0, .int .i64 12]) ∧ w' = w :=
  of_no a b w (fun g => by rw [okS_iff.2 g] at h; cases h)

theorem of_yes' (a b : Int) (w : World) (h : okS a b = true) :
    Calls Try.prog 23 #[.int .i64 a, .int .i64 b] w fun e w' => e = .returned (.tuple #[.complex .f64 (F a) (F b), .int .i64 0]) ∧ w' = w :=
  of_yes a b w (okS_iff.1 h)

theorem ok_lit {a b : Int} (h : 0 ≤ a ∧ a ≤ 1099511627776 ∧ 0 ≤ b ∧ b ≤ 1099511627776) : okS a b = true := okS_iff.2 h
theorem ok_not {a b : Int} (h : ¬ (0 ≤ a ∧ a ≤ 1099511627776 ∧ 0 ≤ b ∧ b ≤ 1099511627776)) : okS a b = false := by
  rw [← Bool.not_eq_true, okS_iff]; exact h

/-- '==' on two sums. -/
theorem eql_FF {a b c d : Int} (h1 : okS a b = true) (h2 : okS c d = true) :
    ((FloatKind.f64.format.order (F a) (F c) == some .eq) && (FloatKind.f64.format.order (F b) (F d) == some .eq)) = decide (a = c ∧ b = d) := by
  have g1 := okS_iff.1 h1
  have g2 := okS_iff.1 h2
  rw [show FloatKind.f64.format = Ieee.double from rfl, eq_F (a := a) (b := c) (by omega) (by omega), eq_F (a := b) (b := d) (by omega) (by omega)]
  simp

end Go.Proofs.Ytmgcaljaaemoaaa
