/- The walk of SumBack: what is added and taken away again is as it was. -/
import Derived.Test.YtlabnphdfdaadaaAwk04
namespace Go.Proofs.Ytlabnphdfdaadaa
open Go.RowKit Flt

theorem r_sub {a b c d : Int} (h1 : okS a b = true) : okS (a + c - c) (b + d - d) = true ∧ (a + c - c = a) ∧ (b + d - d = b) := by
  have e1 : a + c - c = a := by omega
  have e2 : b + d - d = b := by omega
  rw [e1, e2]; exact ⟨h1, rfl, rfl⟩

theorem less_back (a b c d : Int) (w : World) (h1 : okS a b = true) (h2 : okS c d = true) (h3 : okS (a + c) (b + d) = true) :
    Calls Try.prog 13 #[.complex .f64 (F (a + c)) (F (b + d)), .complex .f64 (F c) (F d)] w fun e w' =>
      e = .returned (.tuple #[.complex .f64 (F a) (F b), .int .i64 0]) ∧ w' = w := by
  obtain ⟨e1, e2, e3⟩ := r_sub (c := c) (d := d) h1
  have := less_yes (a + c) (b + d) c d w h3 h2 e1
  rwa [e2, e3] at this

set_option maxHeartbeats 400000 in
theorem sumBack_walk (a b c d : Int) (w : World) :
    Calls Try.prog 3 #[.int .i64 a, .int .i64 b, .int .i64 c, .int .i64 d] w fun e w' => e = .returned (.bool true) ∧ w' = w := by
  cases h1 : okS a b with
  | false =>
    have h1 := Lib.hid h1
    go_enter Try.func3, Try.ntmps3
    go_wp2_with fail
    refine (of_no' a b _ h1.out).mono ?_; rintro e w' ⟨rfl, rfl⟩
    go_wp2_with fail
    refine (of_any c d _).mono ?_; rintro e w' ⟨rfl, rfl⟩
    go_wp2_with (go_at_call 11; refine (awake_any _).mono ?_; rintro e w' ⟨rfl, rfl⟩)
    go_ret
    exact ⟨rfl, rfl⟩
  | true =>
    cases h2 : okS c d with
    | false =>
      have h1 := Lib.hid h1
      have h2 := Lib.hid h2
      go_enter Try.func3, Try.ntmps3
      go_wp2_with fail
      refine (of_yes' a b _ h1.out).mono ?_; rintro e w' ⟨rfl, rfl⟩
      go_wp2_with fail
      refine (of_no' c d _ h2.out).mono ?_; rintro e w' ⟨rfl, rfl⟩
      go_wp2_with (go_at_call 11; refine (awake_any _).mono ?_; rintro e w' ⟨rfl, rfl⟩)
      go_ret
      exact ⟨rfl, rfl⟩
    | true =>
      cases h3 : okS (a + c) (b + d) with
      | false =>
        have h1 := Lib.hid h1
        have h2 := Lib.hid h2
        have h3 := Lib.hid h3
        have hz : (FloatKind.f64.format.order 0 0 == some .eq) = true := by decide
        go_enter Try.func3, Try.ntmps3
        go_wp2_with fail
        refine (of_yes' a b _ h1.out).mono ?_; rintro e w' ⟨rfl, rfl⟩
        go_wp2_with fail
        refine (of_yes' c d _ h2.out).mono ?_; rintro e w' ⟨rfl, rfl⟩
        go_wp2_with fail
        refine (awake_any _).mono ?_; rintro e w' ⟨rfl, rfl⟩
        go_wp2_with fail
        refine (plus_no a b c d _ h1.out h2.out h3.out).mono ?_; rintro e w' ⟨rfl, rfl⟩
        go_wp2_with fail
        go_ret
        exact ⟨rfl, rfl⟩
      | true =>
        have he := eql_FF h1 h1
        rw [show decide (a = a ∧ b = b) = true by simp] at he
        have b1 := okS_iff.1 h1
        have b2 := okS_iff.1 h2
        have h1 := Lib.hid h1
        have h2 := Lib.hid h2
        have h3 := Lib.hid h3
        have k1 : Hid (a ≤ a + c ∧ b ≤ b + d) := Lib.hid (by omega)
        have k2 : Hid (c ≤ a + c ∧ d ≤ b + d) := Lib.hid (by omega)
        clear b1 b2
        go_enter Try.func3, Try.ntmps3
        go_wp2_with fail
        refine (of_yes' a b _ h1.out).mono ?_; rintro e w' ⟨rfl, rfl⟩
        go_wp2_with fail
        refine (of_yes' c d _ h2.out).mono ?_; rintro e w' ⟨rfl, rfl⟩
        go_wp2_with fail
        refine (awake_any _).mono ?_; rintro e w' ⟨rfl, rfl⟩
        go_wp2_with fail
        refine (plus_yes a b c d _ h1.out h2.out h3.out).mono ?_; rintro e w' ⟨rfl, rfl⟩
        go_wp2_with fail
        refine (less_back a b c d _ h1.out h2.out h3.out).mono ?_; rintro e w' ⟨rfl, rfl⟩
        go_wp2_with fail
        refine (fits_yes a b (a + c) (b + d) _ h1.out h3.out k1.out).mono ?_; rintro e w' ⟨rfl, rfl⟩
        go_wp2_with fail
        refine (fits_yes c d (a + c) (b + d) _ h2.out h3.out k2.out).mono ?_; rintro e w' ⟨rfl, rfl⟩
        go_wp2_with fail
        go_ret
        exact ⟨rfl, rfl⟩

end Go.Proofs.Ytlabnphdfdaadaa
