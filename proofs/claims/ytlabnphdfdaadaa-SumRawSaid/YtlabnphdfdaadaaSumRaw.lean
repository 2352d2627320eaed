/- The walk of SumRaw. -/
import Derived.Test.YtlabnphdfdaadaaRaw
import Derived.Test.YtlabnphdfdaadaaAwk04
namespace Go.Proofs.Ytlabnphdfdaadaa
open Go.RowKit Flt

theorem order_eq_swap (x y : Nat) : (Ieee.double.order x y == some .eq) = (Ieee.double.order y x == some .eq) := by
  have e : ∀ d d' : Ieee.Datum, (d.order d' == some .eq) = (d'.order d == some .eq) := by
    intro d d'
    cases d <;> cases d' <;> simp only [Ieee.Datum.order]
    · rename_i s m i t n j
      rw [Int.min_comm j i]
      generalize Ieee.signed s m (i - min i j).toNat = u
      generalize Ieee.signed t n (j - min i j).toNat = v
      rcases Int.lt_trichotomy u v with h | h | h
      · rw [Int.compare_eq_lt.2 h, Int.compare_eq_gt.2 h]; rfl
      · subst h; rfl
      · rw [Int.compare_eq_gt.2 h, Int.compare_eq_lt.2 h]; rfl
    · rename_i s m i t
      cases t <;> rfl
    · rename_i t s m i
      cases t <;> rfl
    · rename_i s t
      cases s <;> cases t <;> rfl
  exact e _ _

set_option maxRecDepth 100000 in
set_option maxHeartbeats 1000000 in
theorem sumRaw_no (re im : Nat) (a b : Int) (w : World) (h : okS a b = false) :
    Calls Try.prog 9 #[.float .f64 re, .float .f64 im, .int .i64 a, .int .i64 b] w fun e w' => e = .returned (.bool true) ∧ Below w.heap.size w w' := by
  replace h := Lib.hid h
  go_enter Try.func9, Try.ntmps9
  go_wp2_with fail
  refine (of_no' a b _ h.out).mono ?_; rintro e w' ⟨rfl, hw⟩; obtain rfl := hw.symm
  clear hw
  go_wp2_with fail
  refine (awake_any _).mono ?_; rintro e w' ⟨rfl, hw⟩; obtain rfl := hw.symm
  clear hw
  go_wp2_with fail
  refine (awake_any _).mono ?_; rintro e w' ⟨rfl, hw⟩; obtain rfl := hw.symm
  clear hw
  go_wp2_with fail
  go_ret
  refine ⟨rfl, ?_⟩
  repeat (first | exact Below.refl _ _ | with_reducible refine below_N ?_ | (with_reducible refine below_set ?_ ?_; · (dsimp only; (first | omega | (simp; done) | (simp; omega)))) | (with_reducible refine below_alloc ?_ ?_; · (first | omega | (simp; done) | (simp; omega))))

set_option maxRecDepth 100000 in
set_option maxHeartbeats 1000000 in
theorem sumRaw_yes (re im : Nat) (a b : Int) (w : World) (h : okS a b = true) (n m : Int) (n1 : floatToIntVal .f64 re .i64 = some n) (m1 : floatToIntVal .f64 im .i64 = some m) (_g1 : (FloatKind.f64.format.order re 0 == some .gt || FloatKind.f64.format.order re 0 == some .eq) = true) (_g2 : (FloatKind.f64.format.order re 4787326403894837248 == some .lt || FloatKind.f64.format.order re 4787326403894837248 == some .eq) = true) (_g3 : (FloatKind.f64.format.order im 0 == some .gt || FloatKind.f64.format.order im 0 == some .eq) = true) (_g4 : (FloatKind.f64.format.order im 4787326403894837248 == some .lt || FloatKind.f64.format.order im 4787326403894837248 == some .eq) = true) (_e1 : (FloatKind.f64.format.order (floatOfInt .f64 n) re == some .eq) = true) (_e2 : (FloatKind.f64.format.order (floatOfInt .f64 m) im == some .eq) = true) (hr : rightB re im = true) (hb : intOfF re = n) (hp : intOfF im = m) :
    Calls Try.prog 9 #[.float .f64 re, .float .f64 im, .int .i64 a, .int .i64 b] w fun e w' => e = .returned (.bool true) ∧ Below w.heap.size w w' := by
  have rb : ∀ w, Calls Try.prog 15 #[.complex .f64 re im] w fun e w' => e = .returned (.int .i64 n) ∧ w' = w := by
    intro w; have := bytes_any re im w; rwa [hr, hb] at this
  have rp : ∀ w, Calls Try.prog 16 #[.complex .f64 re im] w fun e w' => e = .returned (.int .i64 m) ∧ w' = w := by
    intro w; have := pages_any re im w; rwa [hr, hp] at this
  replace rb := Lib.hid rb
  replace rp := Lib.hid rp
  clear hb hp
  replace h := Lib.hid h
  have c1 := fun w => conv_fn re n w n1
  have c2 := fun w => conv_fn im m w m1
  clear n1 m1
  go_enter Try.func9, Try.ntmps9
  go_wp2_with fail
  refine (of_yes' a b _ h.out).mono ?_; rintro e w' ⟨rfl, hw⟩; obtain rfl := hw.symm
  clear hw
  go_wp2_with fail
  refine (awake_any _).mono ?_; rintro e w' ⟨rfl, hw⟩; obtain rfl := hw.symm
  clear hw
  go_wp2_with fail
  refine (right_any _ _ _).mono ?_; rintro e w' ⟨rfl, hw⟩; obtain rfl := hw.symm
  clear hw
  go_wp2_with fail
  refine (rb.out _).mono ?_; rintro e w' ⟨rfl, hw⟩; obtain rfl := hw.symm
  clear hw
  go_wp2_with fail
  refine (rp.out _).mono ?_; rintro e w' ⟨rfl, hw⟩; obtain rfl := hw.symm
  clear hw
  go_wp2_with fail
  go_ret
  refine ⟨rfl, ?_⟩
  repeat (first | exact Below.refl _ _ | with_reducible refine below_N ?_ | (with_reducible refine below_set ?_ ?_; · (dsimp only; (first | omega | (simp; done) | (simp; omega)))) | (with_reducible refine below_alloc ?_ ?_; · (first | omega | (simp; done) | (simp; omega))))

set_option maxRecDepth 100000 in
set_option maxHeartbeats 1000000 in
theorem sumRaw_bad1 (re im : Nat) (a b : Int) (w : World) (h : okS a b = true) (hr : rightB re im = false) (_g1 : (FloatKind.f64.format.order re 0 == some .gt || FloatKind.f64.format.order re 0 == some .eq) = false) :
    Calls Try.prog 9 #[.float .f64 re, .float .f64 im, .int .i64 a, .int .i64 b] w fun e w' => e = .returned (.bool true) ∧ Below w.heap.size w w' := by
  have hz : (FloatKind.f64.format.order 0 0 == some .eq) = true := by decide
  have hr0 := hr
  replace hr := Lib.hid hr
  replace h := Lib.hid h
  go_enter Try.func9, Try.ntmps9
  go_wp2_with fail
  refine (of_yes' a b _ h.out).mono ?_; rintro e w' ⟨rfl, hw⟩; obtain rfl := hw.symm
  clear hw
  go_wp2_with fail
  refine (awake_any _).mono ?_; rintro e w' ⟨rfl, hw⟩; obtain rfl := hw.symm
  clear hw
  go_wp2_with fail
  refine (right_any _ _ _).mono ?_; rintro e w' ⟨rfl, hw⟩; obtain rfl := hw.symm
  clear hw
  go_wp2_with fail
  refine (plus_bad re im (F a) (F b) _ (Or.inl hr.out)).mono ?_; rintro e w' ⟨rfl, k, rfl⟩
  go_wp2_with fail
  refine (plus_bad (F a) (F b) re im _ (Or.inr hr.out)).mono ?_; rintro e w' ⟨rfl, k, rfl⟩
  go_wp2_with fail
  refine (less_bad (F a) (F b) re im _ (Or.inr hr.out)).mono ?_; rintro e w' ⟨rfl, k, rfl⟩
  go_wp2_with fail
  refine (times_bad re im 2 _ hr.out (by omega) (by omega)).mono ?_; rintro e w' ⟨rfl, hw⟩; obtain rfl := hw.symm
  clear hw
  go_wp2_with fail
  refine (total_bad _ _ a b re im _ h.out hr.out (new_cell rfl) (new_cell rfl)).mono ?_; rintro e w' ⟨rfl, k, rfl⟩
  go_wp2_with fail
  refine (bytes_bad re im _ hr.out).mono ?_; rintro e w' ⟨rfl, hw⟩; obtain rfl := hw.symm
  clear hw
  go_wp2_with fail
  refine (pages_bad re im _ hr.out).mono ?_; rintro e w' ⟨rfl, hw⟩; obtain rfl := hw.symm
  clear hw
  go_wp2_with fail
  refine (fits_bad re im (F a) (F b) _ (Or.inl hr.out)).mono ?_; rintro e w' ⟨rfl, hw⟩; obtain rfl := hw.symm
  clear hw
  go_wp2_with fail
  refine (fits_bad (F a) (F b) re im _ (Or.inr hr.out)).mono ?_; rintro e w' ⟨rfl, hw⟩; obtain rfl := hw.symm
  clear hw
  go_wp2_with fail
  go_ret
  refine ⟨rfl, ?_⟩
  repeat (first | exact Below.refl _ _ | with_reducible refine below_N ?_ | (with_reducible refine below_set ?_ ?_; · (dsimp only; (first | omega | (simp; done) | (simp; omega)))) | (with_reducible refine below_alloc ?_ ?_; · (first | omega | (simp; done) | (simp; omega))))

set_option maxRecDepth 100000 in
set_option maxHeartbeats 1000000 in
theorem sumRaw_bad2 (re im : Nat) (a b : Int) (w : World) (h : okS a b = true) (hr : rightB re im = false) (_g1 : (FloatKind.f64.format.order re 0 == some .gt || FloatKind.f64.format.order re 0 == some .eq) = true) (_g2 : (FloatKind.f64.format.order re 4787326403894837248 == some .lt || FloatKind.f64.format.order re 4787326403894837248 == some .eq) = false) :
    Calls Try.prog 9 #[.float .f64 re, .float .f64 im, .int .i64 a, .int .i64 b] w fun e w' => e = .returned (.bool true) ∧ Below w.heap.size w w' := by
  have hz : (FloatKind.f64.format.order 0 0 == some .eq) = true := by decide
  have hr0 := hr
  replace hr := Lib.hid hr
  replace h := Lib.hid h
  go_enter Try.func9, Try.ntmps9
  go_wp2_with fail
  refine (of_yes' a b _ h.out).mono ?_; rintro e w' ⟨rfl, hw⟩; obtain rfl := hw.symm
  clear hw
  go_wp2_with fail
  refine (awake_any _).mono ?_; rintro e w' ⟨rfl, hw⟩; obtain rfl := hw.symm
  clear hw
  go_wp2_with fail
  refine (right_any _ _ _).mono ?_; rintro e w' ⟨rfl, hw⟩; obtain rfl := hw.symm
  clear hw
  go_wp2_with fail
  refine (plus_bad re im (F a) (F b) _ (Or.inl hr.out)).mono ?_; rintro e w' ⟨rfl, k, rfl⟩
  go_wp2_with fail
  refine (plus_bad (F a) (F b) re im _ (Or.inr hr.out)).mono ?_; rintro e w' ⟨rfl, k, rfl⟩
  go_wp2_with fail
  refine (less_bad (F a) (F b) re im _ (Or.inr hr.out)).mono ?_; rintro e w' ⟨rfl, k, rfl⟩
  go_wp2_with fail
  refine (times_bad re im 2 _ hr.out (by omega) (by omega)).mono ?_; rintro e w' ⟨rfl, hw⟩; obtain rfl := hw.symm
  clear hw
  go_wp2_with fail
  refine (total_bad _ _ a b re im _ h.out hr.out (new_cell rfl) (new_cell rfl)).mono ?_; rintro e w' ⟨rfl, k, rfl⟩
  go_wp2_with fail
  refine (bytes_bad re im _ hr.out).mono ?_; rintro e w' ⟨rfl, hw⟩; obtain rfl := hw.symm
  clear hw
  go_wp2_with fail
  refine (pages_bad re im _ hr.out).mono ?_; rintro e w' ⟨rfl, hw⟩; obtain rfl := hw.symm
  clear hw
  go_wp2_with fail
  refine (fits_bad re im (F a) (F b) _ (Or.inl hr.out)).mono ?_; rintro e w' ⟨rfl, hw⟩; obtain rfl := hw.symm
  clear hw
  go_wp2_with fail
  refine (fits_bad (F a) (F b) re im _ (Or.inr hr.out)).mono ?_; rintro e w' ⟨rfl, hw⟩; obtain rfl := hw.symm
  clear hw
  go_wp2_with fail
  go_ret
  refine ⟨rfl, ?_⟩
  repeat (first | exact Below.refl _ _ | with_reducible refine below_N ?_ | (with_reducible refine below_set ?_ ?_; · (dsimp only; (first | omega | (simp; done) | (simp; omega)))) | (with_reducible refine below_alloc ?_ ?_; · (first | omega | (simp; done) | (simp; omega))))

set_option maxRecDepth 100000 in
set_option maxHeartbeats 1000000 in
theorem sumRaw_bad3 (re im : Nat) (a b : Int) (w : World) (h : okS a b = true) (hr : rightB re im = false) (_g1 : (FloatKind.f64.format.order re 0 == some .gt || FloatKind.f64.format.order re 0 == some .eq) = true) (_g2 : (FloatKind.f64.format.order re 4787326403894837248 == some .lt || FloatKind.f64.format.order re 4787326403894837248 == some .eq) = true) (_g3 : (FloatKind.f64.format.order im 0 == some .gt || FloatKind.f64.format.order im 0 == some .eq) = false) :
    Calls Try.prog 9 #[.float .f64 re, .float .f64 im, .int .i64 a, .int .i64 b] w fun e w' => e = .returned (.bool true) ∧ Below w.heap.size w w' := by
  have hz : (FloatKind.f64.format.order 0 0 == some .eq) = true := by decide
  have hr0 := hr
  replace hr := Lib.hid hr
  replace h := Lib.hid h
  go_enter Try.func9, Try.ntmps9
  go_wp2_with fail
  refine (of_yes' a b _ h.out).mono ?_; rintro e w' ⟨rfl, hw⟩; obtain rfl := hw.symm
  clear hw
  go_wp2_with fail
  refine (awake_any _).mono ?_; rintro e w' ⟨rfl, hw⟩; obtain rfl := hw.symm
  clear hw
  go_wp2_with fail
  refine (right_any _ _ _).mono ?_; rintro e w' ⟨rfl, hw⟩; obtain rfl := hw.symm
  clear hw
  go_wp2_with fail
  refine (plus_bad re im (F a) (F b) _ (Or.inl hr.out)).mono ?_; rintro e w' ⟨rfl, k, rfl⟩
  go_wp2_with fail
  refine (plus_bad (F a) (F b) re im _ (Or.inr hr.out)).mono ?_; rintro e w' ⟨rfl, k, rfl⟩
  go_wp2_with fail
  refine (less_bad (F a) (F b) re im _ (Or.inr hr.out)).mono ?_; rintro e w' ⟨rfl, k, rfl⟩
  go_wp2_with fail
  refine (times_bad re im 2 _ hr.out (by omega) (by omega)).mono ?_; rintro e w' ⟨rfl, hw⟩; obtain rfl := hw.symm
  clear hw
  go_wp2_with fail
  refine (total_bad _ _ a b re im _ h.out hr.out (new_cell rfl) (new_cell rfl)).mono ?_; rintro e w' ⟨rfl, k, rfl⟩
  go_wp2_with fail
  refine (bytes_bad re im _ hr.out).mono ?_; rintro e w' ⟨rfl, hw⟩; obtain rfl := hw.symm
  clear hw
  go_wp2_with fail
  refine (pages_bad re im _ hr.out).mono ?_; rintro e w' ⟨rfl, hw⟩; obtain rfl := hw.symm
  clear hw
  go_wp2_with fail
  refine (fits_bad re im (F a) (F b) _ (Or.inl hr.out)).mono ?_; rintro e w' ⟨rfl, hw⟩; obtain rfl := hw.symm
  clear hw
  go_wp2_with fail
  refine (fits_bad (F a) (F b) re im _ (Or.inr hr.out)).mono ?_; rintro e w' ⟨rfl, hw⟩; obtain rfl := hw.symm
  clear hw
  go_wp2_with fail
  go_ret
  refine ⟨rfl, ?_⟩
  repeat (first | exact Below.refl _ _ | with_reducible refine below_N ?_ | (with_reducible refine below_set ?_ ?_; · (dsimp only; (first | omega | (simp; done) | (simp; omega)))) | (with_reducible refine below_alloc ?_ ?_; · (first | omega | (simp; done) | (simp; omega))))

set_option maxRecDepth 100000 in
set_option maxHeartbeats 1000000 in
theorem sumRaw_bad4 (re im : Nat) (a b : Int) (w : World) (h : okS a b = true) (hr : rightB re im = false) (_g1 : (FloatKind.f64.format.order re 0 == some .gt || FloatKind.f64.format.order re 0 == some .eq) = true) (_g2 : (FloatKind.f64.format.order re 4787326403894837248 == some .lt || FloatKind.f64.format.order re 4787326403894837248 == some .eq) = true) (_g3 : (FloatKind.f64.format.order im 0 == some .gt || FloatKind.f64.format.order im 0 == some .eq) = true) (_g4 : (FloatKind.f64.format.order im 4787326403894837248 == some .lt || FloatKind.f64.format.order im 4787326403894837248 == some .eq) = false) :
    Calls Try.prog 9 #[.float .f64 re, .float .f64 im, .int .i64 a, .int .i64 b] w fun e w' => e = .returned (.bool true) ∧ Below w.heap.size w w' := by
  have hz : (FloatKind.f64.format.order 0 0 == some .eq) = true := by decide
  have hr0 := hr
  replace hr := Lib.hid hr
  replace h := Lib.hid h
  go_enter Try.func9, Try.ntmps9
  go_wp2_with fail
  refine (of_yes' a b _ h.out).mono ?_; rintro e w' ⟨rfl, hw⟩; obtain rfl := hw.symm
  clear hw
  go_wp2_with fail
  refine (awake_any _).mono ?_; rintro e w' ⟨rfl, hw⟩; obtain rfl := hw.symm
  clear hw
  go_wp2_with fail
  refine (right_any _ _ _).mono ?_; rintro e w' ⟨rfl, hw⟩; obtain rfl := hw.symm
  clear hw
  go_wp2_with fail
  refine (plus_bad re im (F a) (F b) _ (Or.inl hr.out)).mono ?_; rintro e w' ⟨rfl, k, rfl⟩
  go_wp2_with fail
  refine (plus_bad (F a) (F b) re im _ (Or.inr hr.out)).mono ?_; rintro e w' ⟨rfl, k, rfl⟩
  go_wp2_with fail
  refine (less_bad (F a) (F b) re im _ (Or.inr hr.out)).mono ?_; rintro e w' ⟨rfl, k, rfl⟩
  go_wp2_with fail
  refine (times_bad re im 2 _ hr.out (by omega) (by omega)).mono ?_; rintro e w' ⟨rfl, hw⟩; obtain rfl := hw.symm
  clear hw
  go_wp2_with fail
  refine (total_bad _ _ a b re im _ h.out hr.out (new_cell rfl) (new_cell rfl)).mono ?_; rintro e w' ⟨rfl, k, rfl⟩
  go_wp2_with fail
  refine (bytes_bad re im _ hr.out).mono ?_; rintro e w' ⟨rfl, hw⟩; obtain rfl := hw.symm
  clear hw
  go_wp2_with fail
  refine (pages_bad re im _ hr.out).mono ?_; rintro e w' ⟨rfl, hw⟩; obtain rfl := hw.symm
  clear hw
  go_wp2_with fail
  refine (fits_bad re im (F a) (F b) _ (Or.inl hr.out)).mono ?_; rintro e w' ⟨rfl, hw⟩; obtain rfl := hw.symm
  clear hw
  go_wp2_with fail
  refine (fits_bad (F a) (F b) re im _ (Or.inr hr.out)).mono ?_; rintro e w' ⟨rfl, hw⟩; obtain rfl := hw.symm
  clear hw
  go_wp2_with fail
  go_ret
  refine ⟨rfl, ?_⟩
  repeat (first | exact Below.refl _ _ | with_reducible refine below_N ?_ | (with_reducible refine below_set ?_ ?_; · (dsimp only; (first | omega | (simp; done) | (simp; omega)))) | (with_reducible refine below_alloc ?_ ?_; · (first | omega | (simp; done) | (simp; omega))))

set_option maxRecDepth 100000 in
set_option maxHeartbeats 1000000 in
theorem sumRaw_bad5 (re im : Nat) (a b : Int) (w : World) (h : okS a b = true) (n m : Int) (n1 : floatToIntVal .f64 re .i64 = some n) (m1 : floatToIntVal .f64 im .i64 = some m) (_g1 : (FloatKind.f64.format.order re 0 == some .gt || FloatKind.f64.format.order re 0 == some .eq) = true) (_g2 : (FloatKind.f64.format.order re 4787326403894837248 == some .lt || FloatKind.f64.format.order re 4787326403894837248 == some .eq) = true) (_g3 : (FloatKind.f64.format.order im 0 == some .gt || FloatKind.f64.format.order im 0 == some .eq) = true) (_g4 : (FloatKind.f64.format.order im 4787326403894837248 == some .lt || FloatKind.f64.format.order im 4787326403894837248 == some .eq) = true) (hr : rightB re im = false) (_e1 : (FloatKind.f64.format.order (floatOfInt .f64 n) re == some .eq) = false) :
    Calls Try.prog 9 #[.float .f64 re, .float .f64 im, .int .i64 a, .int .i64 b] w fun e w' => e = .returned (.bool true) ∧ Below w.heap.size w w' := by
  have hz : (FloatKind.f64.format.order 0 0 == some .eq) = true := by decide
  have hr0 := hr
  replace hr := Lib.hid hr
  replace h := Lib.hid h
  have c1 := fun w => conv_fn re n w n1
  have c2 := fun w => conv_fn im m w m1
  clear n1 m1
  go_enter Try.func9, Try.ntmps9
  go_wp2_with fail
  refine (of_yes' a b _ h.out).mono ?_; rintro e w' ⟨rfl, hw⟩; obtain rfl := hw.symm
  clear hw
  go_wp2_with fail
  refine (awake_any _).mono ?_; rintro e w' ⟨rfl, hw⟩; obtain rfl := hw.symm
  clear hw
  go_wp2_with fail
  refine (right_any _ _ _).mono ?_; rintro e w' ⟨rfl, hw⟩; obtain rfl := hw.symm
  clear hw
  go_wp2_with fail
  refine (plus_bad re im (F a) (F b) _ (Or.inl hr.out)).mono ?_; rintro e w' ⟨rfl, k, rfl⟩
  go_wp2_with fail
  refine (plus_bad (F a) (F b) re im _ (Or.inr hr.out)).mono ?_; rintro e w' ⟨rfl, k, rfl⟩
  go_wp2_with fail
  refine (less_bad (F a) (F b) re im _ (Or.inr hr.out)).mono ?_; rintro e w' ⟨rfl, k, rfl⟩
  go_wp2_with fail
  refine (times_bad re im 2 _ hr.out (by omega) (by omega)).mono ?_; rintro e w' ⟨rfl, hw⟩; obtain rfl := hw.symm
  clear hw
  go_wp2_with fail
  refine (total_bad _ _ a b re im _ h.out hr.out (new_cell rfl) (new_cell rfl)).mono ?_; rintro e w' ⟨rfl, k, rfl⟩
  go_wp2_with fail
  refine (bytes_bad re im _ hr.out).mono ?_; rintro e w' ⟨rfl, hw⟩; obtain rfl := hw.symm
  clear hw
  go_wp2_with fail
  refine (pages_bad re im _ hr.out).mono ?_; rintro e w' ⟨rfl, hw⟩; obtain rfl := hw.symm
  clear hw
  go_wp2_with fail
  refine (fits_bad re im (F a) (F b) _ (Or.inl hr.out)).mono ?_; rintro e w' ⟨rfl, hw⟩; obtain rfl := hw.symm
  clear hw
  go_wp2_with fail
  refine (fits_bad (F a) (F b) re im _ (Or.inr hr.out)).mono ?_; rintro e w' ⟨rfl, hw⟩; obtain rfl := hw.symm
  clear hw
  go_wp2_with fail
  go_ret
  refine ⟨rfl, ?_⟩
  repeat (first | exact Below.refl _ _ | with_reducible refine below_N ?_ | (with_reducible refine below_set ?_ ?_; · (dsimp only; (first | omega | (simp; done) | (simp; omega)))) | (with_reducible refine below_alloc ?_ ?_; · (first | omega | (simp; done) | (simp; omega))))

set_option maxRecDepth 100000 in
set_option maxHeartbeats 1000000 in
theorem sumRaw_bad6 (re im : Nat) (a b : Int) (w : World) (h : okS a b = true) (n m : Int) (n1 : floatToIntVal .f64 re .i64 = some n) (m1 : floatToIntVal .f64 im .i64 = some m) (_g1 : (FloatKind.f64.format.order re 0 == some .gt || FloatKind.f64.format.order re 0 == some .eq) = true) (_g2 : (FloatKind.f64.format.order re 4787326403894837248 == some .lt || FloatKind.f64.format.order re 4787326403894837248 == some .eq) = true) (_g3 : (FloatKind.f64.format.order im 0 == some .gt || FloatKind.f64.format.order im 0 == some .eq) = true) (_g4 : (FloatKind.f64.format.order im 4787326403894837248 == some .lt || FloatKind.f64.format.order im 4787326403894837248 == some .eq) = true) (hr : rightB re im = false) (_e1 : (FloatKind.f64.format.order (floatOfInt .f64 n) re == some .eq) = true) (_e2 : (FloatKind.f64.format.order (floatOfInt .f64 m) im == some .eq) = false) :
    Calls Try.prog 9 #[.float .f64 re, .float .f64 im, .int .i64 a, .int .i64 b] w fun e w' => e = .returned (.bool true) ∧ Below w.heap.size w w' := by
  have hz : (FloatKind.f64.format.order 0 0 == some .eq) = true := by decide
  have hr0 := hr
  replace hr := Lib.hid hr
  replace h := Lib.hid h
  have c1 := fun w => conv_fn re n w n1
  have c2 := fun w => conv_fn im m w m1
  clear n1 m1
  go_enter Try.func9, Try.ntmps9
  go_wp2_with fail
  refine (of_yes' a b _ h.out).mono ?_; rintro e w' ⟨rfl, hw⟩; obtain rfl := hw.symm
  clear hw
  go_wp2_with fail
  refine (awake_any _).mono ?_; rintro e w' ⟨rfl, hw⟩; obtain rfl := hw.symm
  clear hw
  go_wp2_with fail
  refine (right_any _ _ _).mono ?_; rintro e w' ⟨rfl, hw⟩; obtain rfl := hw.symm
  clear hw
  go_wp2_with fail
  refine (plus_bad re im (F a) (F b) _ (Or.inl hr.out)).mono ?_; rintro e w' ⟨rfl, k, rfl⟩
  go_wp2_with fail
  refine (plus_bad (F a) (F b) re im _ (Or.inr hr.out)).mono ?_; rintro e w' ⟨rfl, k, rfl⟩
  go_wp2_with fail
  refine (less_bad (F a) (F b) re im _ (Or.inr hr.out)).mono ?_; rintro e w' ⟨rfl, k, rfl⟩
  go_wp2_with fail
  refine (times_bad re im 2 _ hr.out (by omega) (by omega)).mono ?_; rintro e w' ⟨rfl, hw⟩; obtain rfl := hw.symm
  clear hw
  go_wp2_with fail
  refine (total_bad _ _ a b re im _ h.out hr.out (new_cell rfl) (new_cell rfl)).mono ?_; rintro e w' ⟨rfl, k, rfl⟩
  go_wp2_with fail
  refine (bytes_bad re im _ hr.out).mono ?_; rintro e w' ⟨rfl, hw⟩; obtain rfl := hw.symm
  clear hw
  go_wp2_with fail
  refine (pages_bad re im _ hr.out).mono ?_; rintro e w' ⟨rfl, hw⟩; obtain rfl := hw.symm
  clear hw
  go_wp2_with fail
  refine (fits_bad re im (F a) (F b) _ (Or.inl hr.out)).mono ?_; rintro e w' ⟨rfl, hw⟩; obtain rfl := hw.symm
  clear hw
  go_wp2_with fail
  refine (fits_bad (F a) (F b) re im _ (Or.inr hr.out)).mono ?_; rintro e w' ⟨rfl, hw⟩; obtain rfl := hw.symm
  clear hw
  go_wp2_with fail
  go_ret
  refine ⟨rfl, ?_⟩
  repeat (first | exact Below.refl _ _ | with_reducible refine below_N ?_ | (with_reducible refine below_set ?_ ?_; · (dsimp only; (first | omega | (simp; done) | (simp; omega)))) | (with_reducible refine below_alloc ?_ ?_; · (first | omega | (simp; done) | (simp; omega))))

theorem sumRaw_walk (re im : Nat) (a b : Int) (w : World) :
    Calls Try.prog 9 #[.float .f64 re, .float .f64 im, .int .i64 a, .int .i64 b] w fun e w' => e = .returned (.bool true) ∧ Below w.heap.size w w' := by
  cases h : okS a b with
  | false => exact sumRaw_no re im a b w h
  | true =>
    cases g1 : ge0 re with
    | false => exact sumRaw_bad1 re im a b w h (by unfold rightB wholeB; rw [g1]; rfl) g1
    | true =>
      cases g2 : le40 re with
      | false => exact sumRaw_bad2 re im a b w h (by unfold rightB wholeB; rw [g1, g2]; rfl) g1 g2
      | true =>
        cases g3 : ge0 im with
        | false => exact sumRaw_bad3 re im a b w h (by unfold rightB; rw [Bool.and_comm]; unfold wholeB; rw [g3]; rfl) g1 g2 g3
        | true =>
          cases g4 : le40 im with
          | false => exact sumRaw_bad4 re im a b w h (by unfold rightB; rw [Bool.and_comm]; unfold wholeB; rw [g3, g4]; rfl) g1 g2 g3 g4
          | true =>
            have n1 := toIntVal g1 g2
            have m1 := toIntVal g3 g4
            have s1 : (FloatKind.f64.format.order (floatOfInt .f64 (intOfF re)) re == some .eq) = wholeB re := by
              unfold wholeB; rw [g1, g2]; exact order_eq_swap _ _
            have s2 : (FloatKind.f64.format.order (floatOfInt .f64 (intOfF im)) im == some .eq) = wholeB im := by
              unfold wholeB; rw [g3, g4]; exact order_eq_swap _ _
            cases e1 : wholeB re with
            | false => exact sumRaw_bad5 re im a b w h _ _ n1 m1 g1 g2 g3 g4 (by unfold rightB; rw [e1]; rfl) (s1.trans e1)
            | true =>
              cases e2 : wholeB im with
              | false => exact sumRaw_bad6 re im a b w h _ _ n1 m1 g1 g2 g3 g4 (by unfold rightB; rw [e1, e2]; rfl) (s1.trans e1) (s2.trans e2)
              | true => exact sumRaw_yes re im a b w h _ _ n1 m1 g1 g2 g3 g4 (s1.trans e1) (s2.trans e2) (by unfold rightB; rw [e1, e2]; rfl) rfl rfl

end Go.Proofs.Ytlabnphdfdaadaa
