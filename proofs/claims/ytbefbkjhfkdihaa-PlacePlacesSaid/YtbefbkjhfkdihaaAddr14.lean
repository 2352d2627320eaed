/- The contracts of place.whole and place.Addr. -/
import Derived.Test.YtbefbkjhfkdihaaAwk14
import Derived.Test.YtbefbkjhfkdihaaFltN
import Derived.WalkLawsBesides
namespace Go.Proofs.Ytbefbkjhfkdihaa
open Go.RowKit Flt

theorem conv_fn (x : Nat) (n : Int) (w : World) (h : floatToIntVal .f64 x .i64 = some n) :
    (convert 38 3 (.float .f64 x)).run Try.prog w = .ok (.int .i64 n) w :=
  run_convert_float_int w 38 3 .f64 .i64 x n (by rw [Try.underlying38]; rfl) Try.underlying3 h

def ltZ (x : Nat) (n : Int) : Bool := FloatKind.f64.format.order x (F n) == some .lt
def isW (x : Nat) : Bool := FloatKind.f64.format.order (F (intOfF x)) x == some .eq
@[irreducible] def wB (x : Nat) (n : Int) : Bool := ge0 x && (ltZ x n && isW x)
@[irreducible] def wP (x : Nat) (n : Int) : Int := if ge0 x && ltZ x n then intOfF x else 0

theorem ltZ_N {x : Nat} {n : Int} (h0 : 0 ≤ n) : ltZ x n = ltN x n.toNat := by
  unfold ltZ ltN
  rw [show ((n.toNat : Nat) : Int) = n by omega]
  rfl

theorem within_F {x : Nat} {n : Int} (h0 : 0 ≤ n) (h1 : n ≤ 6400) (g : ge0 x = true) (l : ltZ x n = true) : (Ieee.double.read x).toInt .zero = some (intOfF x) ∧ 0 ≤ intOfF x ∧ intOfF x ≤ n := by
  rw [ltZ_N h0] at l
  have := intOfF_upto (N := n.toNat) (by omega) g l
  rwa [show ((n.toNat : Nat) : Int) = n by omega] at this

theorem toIntVal' {x : Nat} {n : Int} (h0 : 0 ≤ n) (h1 : n ≤ 6400) (g : ge0 x = true) (l : ltZ x n = true) : floatToIntVal .f64 x .i64 = some (intOfF x) := by
  obtain ⟨e, a, b⟩ := within_F h0 h1 g l
  unfold floatToIntVal
  rw [show FloatKind.f64.decode x = Ieee.double.read x from rfl, e]
  simp only
  rw [if_pos]
  exact ⟨Int.le_trans (by decide) a, Int.le_trans b (Int.le_trans h1 (by decide))⟩

theorem wP_bound {x : Nat} {n : Int} (h0 : 0 ≤ n) (h1 : n ≤ 6400) : 0 ≤ wP x n ∧ wP x n ≤ n := by
  unfold wP
  split
  · rename_i h
    rw [Bool.and_eq_true] at h
    exact (within_F h0 h1 h.1 h.2).2
  · omega

theorem whole_any (x : Nat) (n : Int) (w : World) (h0 : 0 ≤ n) (h1 : n ≤ 6400) :
    Calls Try.prog 28 #[.float .f64 x, .int .i64 n] w fun e w' => e = .returned (.tuple #[.int .i64 (wP x n), .bool (wB x n)]) ∧ w' = w := by
  unfold wB wP
  cases g : ge0 x with
  | false =>
    have g' : (FloatKind.f64.format.order x 0 == some .gt || FloatKind.f64.format.order x 0 == some .eq) = false := g
    simp only [Bool.false_and, Bool.false_eq_true, if_false]
    clear g
    go_enter Try.func28, Try.ntmps28
    go_wp2
    go_ret2
    exact ⟨rfl, rfl⟩
  | true =>
    have g' : (FloatKind.f64.format.order x 0 == some .gt || FloatKind.f64.format.order x 0 == some .eq) = true := g
    cases l : ltZ x n with
    | false =>
      have l' : (FloatKind.f64.format.order x (floatOfInt .f64 n) == some .lt) = false := l
      simp only [Bool.false_and, Bool.true_and, Bool.false_eq_true, if_false]
      clear g l
      go_enter Try.func28, Try.ntmps28
      go_wp2
      go_ret2
      exact ⟨rfl, rfl⟩
    | true =>
      have l' : (FloatKind.f64.format.order x (floatOfInt .f64 n) == some .lt) = true := l
      have hc := conv_fn x _ w (toIntVal' h0 h1 g l)
      have e : isW x = (FloatKind.f64.format.order (floatOfInt .f64 (intOfF x)) x == some .eq) := rfl
      simp only [Bool.true_and, if_true]
      rw [e]
      clear g l e
      generalize intOfF x = m at *
      go_enter Try.func28, Try.ntmps28
      go_wp2
      go_ret2
      exact ⟨rfl, rfl⟩

def adB (x y : Nat) : Bool := wB x 6400 && (wB y 512 && decide (256 ≤ wP x 6400))

theorem addr_yes (x y : Nat) (w : World) (h : adB x y = true) :
    Calls Try.prog 21 #[.complex .f64 x y] w fun e w' => e = .returned (.tuple #[.int .i64 (wP x 6400 * 512 + wP y 512), .int .i64 0]) ∧ w' = w := by
  unfold adB at h
  simp only [Bool.and_eq_true, decide_eq_true_eq] at h
  obtain ⟨h1, h2, h3⟩ := h
  obtain ⟨a0, a1⟩ := wP_bound (x := x) (n := 6400) (by omega) (by omega)
  obtain ⟨b0, b1⟩ := wP_bound (x := y) (n := 512) (by omega) (by omega)
  go_enter Try.func21, Try.ntmps21
  go_wp2_with fail
  refine (whole_any _ _ _ (by omega) (by omega)).mono ?_; rintro e w' ⟨rfl, hw⟩; obtain rfl := hw.symm
  clear hw
  go_wp2_with fail
  refine (whole_any _ _ _ (by omega) (by omega)).mono ?_; rintro e w' ⟨rfl, hw⟩; obtain rfl := hw.symm
  clear hw
  go_wp2_with fail
  go_ret2
  exact ⟨rfl, rfl⟩

theorem addr_no (x y : Nat) (w : World) (h : adB x y = false) :
    Calls Try.prog 21 #[.complex .f64 x y] w fun e w' => e = .returned (.tuple #[.int .i64 0, .int .i64 4]) ∧ w' = w := by
  have h : wB x 6400 = false ∨ (wB x 6400 = true ∧ wB y 512 = false) ∨ (wB x 6400 = true ∧ wB y 512 = true ∧ wP x 6400 < 256) := by
    unfold adB at h
    cases h1 : wB x 6400
    · exact .inl rfl
    · cases h2 : wB y 512
      · exact .inr (.inl ⟨rfl, rfl⟩)
      · rw [h1, h2] at h
        simp only [Bool.true_and, decide_eq_false_iff_not] at h
        exact .inr (.inr ⟨rfl, rfl, by omega⟩)
  rcases h with h | ⟨h, g⟩ | ⟨h, g, k⟩
  all_goals
    go_enter Try.func21, Try.ntmps21
    go_wp2_with fail
    refine (whole_any _ _ _ (by omega) (by omega)).mono ?_; rintro e w' ⟨rfl, hw⟩; obtain rfl := hw.symm
    clear hw
    go_wp2_with fail
    refine (whole_any _ _ _ (by omega) (by omega)).mono ?_; rintro e w' ⟨rfl, hw⟩; obtain rfl := hw.symm
    clear hw
    go_wp2_with fail
    go_ret2
    exact ⟨rfl, rfl⟩

end Go.Proofs.Ytbefbkjhfkdihaa
