/- The walk of SumFits. -/
import Derived.Test.YtlabnphdfdaadaaOrder
import Derived.IntWalk
namespace Go.Proofs.Ytlabnphdfdaadaa
open Go.RowKit Flt

set_option maxHeartbeats 400000 in
theorem sumFits_no1 (a0 a1 b0 b1 : Int) (w : World) (h1 : okS a0 a1 = false) :
    Calls Try.prog 5 #[.agg #[.int .i64 a0, .int .i64 a1], .agg #[.int .i64 b0, .int .i64 b1]] w fun e w' => e = .returned (.bool true) ∧ Grown w w' := by
  replace h1 := Lib.hid h1
  go_enter Try.func5, Try.ntmps5
  go_wp2_with fail
  refine (of_no' a0 a1 _ h1.out).mono ?_; rintro e w' ⟨rfl, rfl⟩
  go_wp2_with fail
  refine (of_any b0 b1 _).mono ?_; rintro e w' ⟨rfl, rfl⟩
  go_wp2_with fail
  go_wp2_with (go_at_call 11; refine (awake_any _).mono ?_; rintro e w' ⟨rfl, rfl⟩)
  go_ret
  exact ⟨rfl, by repeat (first | exact Grown.refl _ | apply Grown.drew | apply grown_drewN | apply Grown.alloc)⟩

set_option maxHeartbeats 400000 in
theorem sumFits_no2 (a0 a1 b0 b1 : Int) (w : World) (h1 : okS a0 a1 = true) (h2 : okS b0 b1 = false) :
    Calls Try.prog 5 #[.agg #[.int .i64 a0, .int .i64 a1], .agg #[.int .i64 b0, .int .i64 b1]] w fun e w' => e = .returned (.bool true) ∧ Grown w w' := by
  replace h1 := Lib.hid h1
  replace h2 := Lib.hid h2
  go_enter Try.func5, Try.ntmps5
  go_wp2_with fail
  refine (of_yes' a0 a1 _ h1.out).mono ?_; rintro e w' ⟨rfl, rfl⟩
  go_wp2_with fail
  refine (of_no' b0 b1 _ h2.out).mono ?_; rintro e w' ⟨rfl, rfl⟩
  go_wp2_with fail
  go_wp2_with (go_at_call 11; refine (awake_any _).mono ?_; rintro e w' ⟨rfl, rfl⟩)
  go_ret
  exact ⟨rfl, by repeat (first | exact Grown.refl _ | apply Grown.drew | apply grown_drewN | apply Grown.alloc)⟩

set_option maxHeartbeats 400000 in
theorem sumFits_yes (a0 a1 b0 b1 : Int) (w : World) (h1 : okS a0 a1 = true) (h2 : okS b0 b1 = true) (hk : a0 ≤ b0) (hl : a1 ≤ b1) :
    Calls Try.prog 5 #[.agg #[.int .i64 a0, .int .i64 a1], .agg #[.int .i64 b0, .int .i64 b1]] w fun e w' => e = .returned (.bool true) ∧ Grown w w' := by
  obtain ⟨b1l, b1h, b2l, b2h⟩ := okS_iff.1 h1
  obtain ⟨b3l, b3h, b4l, b4h⟩ := okS_iff.1 h2
  replace h1 := Lib.hid h1
  replace h2 := Lib.hid h2
  have h3 : Hid (okS (b0 - a0) (b1 - a1) = true) := Lib.hid (ok_lit (by omega))
  have hf : Hid (a0 ≤ b0 ∧ a1 ≤ b1) := Lib.hid ⟨hk, hl⟩
  have hk' : decide (a0 ≤ b0) = true := decide_eq_true hk
  have hl' : decide (a1 ≤ b1) = true := decide_eq_true hl
  have s1 : IntKind.i64.wrap (b0 - a0) = b0 - a0 := IntWalk.i64_in _ (by omega)
  have s2 : IntKind.i64.wrap (b1 - a1) = b1 - a1 := IntWalk.i64_in _ (by omega)
  go_enter Try.func5, Try.ntmps5
  go_wp2_with fail
  refine (of_yes' a0 a1 _ h1.out).mono ?_; rintro e w' ⟨rfl, rfl⟩
  go_wp2_with fail
  refine (of_yes' b0 b1 _ h2.out).mono ?_; rintro e w' ⟨rfl, rfl⟩
  go_wp2_with fail
  refine (awake_any _).mono ?_; rintro e w' ⟨rfl, rfl⟩
  go_wp2_with fail
  refine (less_yes b0 b1 a0 a1 _ h2.out h1.out h3.out).mono ?_; rintro e w' ⟨rfl, rfl⟩
  go_wp2_with fail
  go_quiet ((first | (go_at_call 14; exact Calls.quiet_of_same (fits_yes a0 a1 b0 b1 _ h1.out h2.out hf.out)) | (go_at_call 15; exact Calls.quiet_of_same (bytes_F (b0 - a0) (b1 - a1) _ h3.out)) | (go_at_call 16; exact Calls.quiet_of_same (pages_F (b0 - a0) (b1 - a1) _ h3.out))))
  go_wp2_with fail
  go_ret
  exact ⟨rfl, by repeat (first | exact Grown.refl _ | apply Grown.drew | apply grown_drewN | apply Grown.alloc)⟩

set_option maxHeartbeats 400000 in
theorem sumFits_no3 (a0 a1 b0 b1 : Int) (w : World) (h1 : okS a0 a1 = true) (h2 : okS b0 b1 = true) (hk : ¬ a0 ≤ b0) :
    Calls Try.prog 5 #[.agg #[.int .i64 a0, .int .i64 a1], .agg #[.int .i64 b0, .int .i64 b1]] w fun e w' => e = .returned (.bool true) ∧ Grown w w' := by
  obtain ⟨b1l, b1h, b2l, b2h⟩ := okS_iff.1 h1
  obtain ⟨b3l, b3h, b4l, b4h⟩ := okS_iff.1 h2
  replace h1 := Lib.hid h1
  replace h2 := Lib.hid h2
  have h3 : Hid (okS (b0 - a0) (b1 - a1) = false) := Lib.hid (ok_not (by omega))
  have hf : Hid (¬ (a0 ≤ b0 ∧ a1 ≤ b1)) := Lib.hid (by omega)
  have hk' : decide (a0 ≤ b0) = false := decide_eq_false hk
  go_enter Try.func5, Try.ntmps5
  go_wp2_with fail
  refine (of_yes' a0 a1 _ h1.out).mono ?_; rintro e w' ⟨rfl, rfl⟩
  go_wp2_with fail
  refine (of_yes' b0 b1 _ h2.out).mono ?_; rintro e w' ⟨rfl, rfl⟩
  go_wp2_with fail
  refine (awake_any _).mono ?_; rintro e w' ⟨rfl, rfl⟩
  go_wp2_with fail
  refine (less_no b0 b1 a0 a1 _ h2.out h1.out h3.out).mono ?_; rintro e w' ⟨rfl, rfl⟩
  go_wp2_with fail
  go_quiet ((go_at_call 14; exact Calls.quiet_of_same (fits_no a0 a1 b0 b1 _ h1.out h2.out hf.out)))
  go_wp2_with fail
  go_ret
  exact ⟨rfl, by repeat (first | exact Grown.refl _ | apply Grown.drew | apply grown_drewN | apply Grown.alloc)⟩

set_option maxHeartbeats 400000 in
theorem sumFits_no4 (a0 a1 b0 b1 : Int) (w : World) (h1 : okS a0 a1 = true) (h2 : okS b0 b1 = true) (hk : a0 ≤ b0) (hl : ¬ a1 ≤ b1) :
    Calls Try.prog 5 #[.agg #[.int .i64 a0, .int .i64 a1], .agg #[.int .i64 b0, .int .i64 b1]] w fun e w' => e = .returned (.bool true) ∧ Grown w w' := by
  obtain ⟨b1l, b1h, b2l, b2h⟩ := okS_iff.1 h1
  obtain ⟨b3l, b3h, b4l, b4h⟩ := okS_iff.1 h2
  replace h1 := Lib.hid h1
  replace h2 := Lib.hid h2
  have h3 : Hid (okS (b0 - a0) (b1 - a1) = false) := Lib.hid (ok_not (by omega))
  have hf : Hid (¬ (a0 ≤ b0 ∧ a1 ≤ b1)) := Lib.hid (by omega)
  have hk' : decide (a0 ≤ b0) = true := decide_eq_true hk
  have hl' : decide (a1 ≤ b1) = false := decide_eq_false hl
  go_enter Try.func5, Try.ntmps5
  go_wp2_with fail
  refine (of_yes' a0 a1 _ h1.out).mono ?_; rintro e w' ⟨rfl, rfl⟩
  go_wp2_with fail
  refine (of_yes' b0 b1 _ h2.out).mono ?_; rintro e w' ⟨rfl, rfl⟩
  go_wp2_with fail
  refine (awake_any _).mono ?_; rintro e w' ⟨rfl, rfl⟩
  go_wp2_with fail
  refine (less_no b0 b1 a0 a1 _ h2.out h1.out h3.out).mono ?_; rintro e w' ⟨rfl, rfl⟩
  go_wp2_with fail
  go_quiet ((go_at_call 14; exact Calls.quiet_of_same (fits_no a0 a1 b0 b1 _ h1.out h2.out hf.out)))
  go_wp2_with fail
  go_ret
  exact ⟨rfl, by repeat (first | exact Grown.refl _ | apply Grown.drew | apply grown_drewN | apply Grown.alloc)⟩

theorem sumFits_walk (a0 a1 b0 b1 : Int) (w : World) :
    Calls Try.prog 5 #[.agg #[.int .i64 a0, .int .i64 a1], .agg #[.int .i64 b0, .int .i64 b1]] w fun e w' => e = .returned (.bool true) ∧ Grown w w' := by
  cases h1 : okS a0 a1 with
  | false => exact sumFits_no1 a0 a1 b0 b1 w h1
  | true =>
    cases h2 : okS b0 b1 with
    | false => exact sumFits_no2 a0 a1 b0 b1 w h1 h2
    | true =>
      by_cases hk : a0 ≤ b0
      · by_cases hl : a1 ≤ b1
        · exact sumFits_yes a0 a1 b0 b1 w h1 h2 hk hl
        · exact sumFits_no4 a0 a1 b0 b1 w h1 h2 hk hl
      · exact sumFits_no3 a0 a1 b0 b1 w h1 h2 hk

end Go.Proofs.Ytlabnphdfdaadaa
