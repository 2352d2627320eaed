/- The contracts of package sum's functions over this seat's translation: what each call answers, and that memory is as it was. -/
import Derived.Test.YtjjdnmlfhankjaaProg
import Derived.Test.YtjjdnmlfhankjaaFlt
import Derived.WalkKit
import Derived.WalkSpells
import Derived.WalkLawsBesides
import Derived.Lib.Hide
import Derived.KernelRfl
namespace Go.Proofs.Ytjjdnmlfhankjaa
open Go.RowKit Flt

theorem conv_fi (x : Nat) (n : Int) (w : World) (h : floatToIntVal .f64 x .i64 = some n) :
    (convert 50 2 (.float .f64 x)).run Try.prog w = .ok (.int .i64 n) w :=
  run_convert_float_int w 50 2 .f64 .i64 x n (by rw [Try.underlying50]; rfl) Try.underlying2 h

theorem conv_fn (x : Nat) (n : Int) (w : World) (h : floatToIntVal .f64 x .i64 = some n) :
    (convert 50 3 (.float .f64 x)).run Try.prog w = .ok (.int .i64 n) w :=
  run_convert_float_int w 50 3 .f64 .i64 x n (by rw [Try.underlying50]; rfl) Try.underlying3 h

theorem toIntVal {x : Nat} (h0 : ge0 x = true) (h1 : le40 x = true) : floatToIntVal .f64 x .i64 = some (intOfF x) := by
  obtain ⟨e, a, b⟩ := intOfF_within h0 h1
  unfold floatToIntVal
  rw [show FloatKind.f64.decode x = Ieee.double.read x from rfl, e]
  simp only
  rw [if_pos]
  exact ⟨Int.le_trans (by decide) a, Int.le_trans b (by decide)⟩

set_option maxHeartbeats 400000 in
theorem whole_any (x : Nat) (w : World) :
    Calls Try.prog 33 #[.float .f64 x] w fun e w' => e = .returned (.bool (wholeB x)) ∧ w' = w := by
  by_cases h0 : ge0 x = true
  · have h0' : (FloatKind.f64.format.order x 0 == some .gt || FloatKind.f64.format.order x 0 == some .eq) = true := h0
    by_cases h1 : le40 x = true
    · have hi := toIntVal h0 h1
      have h1' : (FloatKind.f64.format.order x 4787326403894837248 == some .lt || FloatKind.f64.format.order x 4787326403894837248 == some .eq) = true := h1
      have hc := conv_fi x _ w hi
      have e : wholeB x = (FloatKind.f64.format.order x (floatOfInt .f64 (intOfF x)) == some .eq) := by
        unfold wholeB; rw [h0, h1]; rfl
      rw [e]
      clear e hi h0 h1
      generalize intOfF x = n at *
      go_enter Try.func33, Try.ntmps33
      go_wp2
      go_ret
      exact ⟨rfl, rfl⟩
    · have h1' : (FloatKind.f64.format.order x 4787326403894837248 == some .lt || FloatKind.f64.format.order x 4787326403894837248 == some .eq) = false := (by simpa using h1 : le40 x = false)
      have e : wholeB x = false := by unfold wholeB; simp [h1]
      rw [e]
      clear e h0 h1
      go_enter Try.func33, Try.ntmps33
      go_wp2
      go_ret
      exact ⟨rfl, rfl⟩
  · have h0' : (FloatKind.f64.format.order x 0 == some .gt || FloatKind.f64.format.order x 0 == some .eq) = false := (by simpa using h0 : ge0 x = false)
    have e : wholeB x = false := by unfold wholeB; simp [h0]
    rw [e]
    clear e h0
    go_enter Try.func33, Try.ntmps33
    go_wp2
    go_ret
    exact ⟨rfl, rfl⟩

/-- Both parts are whole numbers from 0 to 2^40. -/
def rightB (x y : Nat) : Bool := wholeB x && wholeB y

set_option maxHeartbeats 400000 in
theorem right_any (x y : Nat) (w : World) :
    Calls Try.prog 29 #[.complex .f64 x y] w fun e w' => e = .returned (.bool (rightB x y)) ∧ w' = w := by
  cases h : wholeB x with
  | true =>
    have e : rightB x y = wholeB y := by unfold rightB; rw [h]; rfl
    rw [e]
    clear e
    go_enter Try.func29, Try.ntmps29
    go_wp2_with (go_at_call 33; refine (whole_any _ _).mono ?_; rintro e w' ⟨rfl, rfl⟩)
    go_ret
    exact ⟨rfl, rfl⟩
  | false =>
    have e : rightB x y = false := by unfold rightB; rw [h]; rfl
    rw [e]
    clear e
    go_enter Try.func29, Try.ntmps29
    go_wp2_with (go_at_call 33; refine (whole_any _ _).mono ?_; rintro e w' ⟨rfl, rfl⟩)
    go_ret
    exact ⟨rfl, rfl⟩

set_option maxHeartbeats 400000 in
theorem sumBytes_any (x y : Nat) (w : World) :
    Calls Try.prog 16 #[.complex .f64 x y] w fun e w' => e = .returned (.int .i64 (if rightB x y then intOfF x else 0)) ∧ w' = w := by
  cases h : rightB x y with
  | true =>
    have hw : wholeB x = true := by unfold rightB at h; simp at h; exact h.1
    have h0 : ge0 x = true := by unfold wholeB at hw; simp at hw; exact hw.1
    have h1 : le40 x = true := by unfold wholeB at hw; simp at hw; exact hw.2.1
    have hc := conv_fn x _ w (toIntVal h0 h1)
    clear hw h0 h1
    generalize intOfF x = n at *
    go_enter Try.func16, Try.ntmps16
    go_wp2_with (go_at_call 29; refine (right_any _ _ _).mono ?_; rintro e w' ⟨rfl, rfl⟩)
    go_ret
    exact ⟨rfl, rfl⟩
  | false =>
    go_enter Try.func16, Try.ntmps16
    go_wp2_with (go_at_call 29; refine (right_any _ _ _).mono ?_; rintro e w' ⟨rfl, rfl⟩)
    go_ret
    exact ⟨rfl, rfl⟩

set_option maxHeartbeats 400000 in
theorem sumPages_any (x y : Nat) (w : World) :
    Calls Try.prog 17 #[.complex .f64 x y] w fun e w' => e = .returned (.int .i64 (if rightB x y then intOfF y else 0)) ∧ w' = w := by
  cases h : rightB x y with
  | true =>
    have hw : wholeB y = true := by unfold rightB at h; simp at h; exact h.2
    have h0 : ge0 y = true := by unfold wholeB at hw; simp at hw; exact hw.1
    have h1 : le40 y = true := by unfold wholeB at hw; simp at hw; exact hw.2.1
    have hc := conv_fn y _ w (toIntVal h0 h1)
    clear hw h0 h1
    generalize intOfF y = n at *
    go_enter Try.func17, Try.ntmps17
    go_wp2_with (go_at_call 29; refine (right_any _ _ _).mono ?_; rintro e w' ⟨rfl, rfl⟩)
    go_ret
    exact ⟨rfl, rfl⟩
  | false =>
    go_enter Try.func17, Try.ntmps17
    go_wp2_with (go_at_call 29; refine (right_any _ _ _).mono ?_; rintro e w' ⟨rfl, rfl⟩)
    go_ret
    exact ⟨rfl, rfl⟩

/-- What 'checked' answers. -/
@[irreducible] def cX (ok : Bool) (x y : Nat) : Nat := if ok && rightB x y then x else 0
@[irreducible] def cY (ok : Bool) (x y : Nat) : Nat := if ok && rightB x y then y else 0
@[irreducible] def cE (ok : Bool) (x y : Nat) : Int := if ok && rightB x y then 0 else 12
theorem c_yes {x y : Nat} (h : rightB x y = true) : cX true x y = x ∧ cY true x y = y ∧ cE true x y = 0 := by unfold cX cY cE; simp [h]
theorem c_no {x y : Nat} (h : rightB x y = false) : cX true x y = 0 ∧ cY true x y = 0 ∧ cE true x y = 12 := by unfold cX cY cE; simp [h]
theorem c_false (x y : Nat) : cX false x y = 0 ∧ cY false x y = 0 ∧ cE false x y = 12 := by unfold cX cY cE; simp




end Go.Proofs.Ytjjdnmlfhankjaa
