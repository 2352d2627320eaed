/- The walk of PlacePlaces. -/
import Derived.Test.YtbefbkjhfkdihaaAddr14
namespace Go.Proofs.Ytbefbkjhfkdihaa
open Go.RowKit Flt

theorem F256 : F 256 = 4643211215818981376 := by decide +kernel
theorem F6400 : F 6400 = 4663758889118859264 := by decide +kernel
theorem F512 : F 512 = 4647714815446351872 := by decide +kernel

theorem w_F {m n : Int} (h0 : 0 ≤ m) (h1 : m < n) (h2 : n ≤ 6400) : wB (F m) n = true ∧ wP (F m) n = m := by
  have a : ge0 (F m) = true := by rw [ge0_F (by omega)]; exact decide_eq_true h0
  have b : ltZ (F m) n = true := by
    rw [ltZ_N (by omega), Num_lt (num_of_eq (x := F m) (n := m) (by omega) ?_) (by omega)]
    · exact decide_eq_true (by omega)
    · have := eq_F (a := m) (b := m) (by omega) (by omega)
      rw [decide_eq_true rfl] at this
      exact eq_of_beq this
  have c : isW (F m) = true := by
    unfold isW
    rw [intOfF_F (by omega)]
    exact (eq_F (by omega) (by omega)).trans (decide_eq_true rfl)
  unfold wB wP
  rw [a, b, c, intOfF_F (by omega)]
  exact ⟨rfl, rfl⟩

theorem addr_at (a : Int) (w : World) (h0 : 131072 ≤ a) (h1 : a < 3276800) :
    Calls Try.prog 21 #[.complex .f64 (F (a / 512)) (F (a % 512))] w fun e w' => e = .returned (.tuple #[.int .i64 a, .int .i64 0]) ∧ w' = w := by
  have x := w_F (m := a / 512) (n := 6400) (by omega) (by omega) (by omega)
  have y := w_F (m := a % 512) (n := 512) (by omega) (by omega) (by omega)
  have h := addr_yes (F (a / 512)) (F (a % 512)) w (by unfold adB; rw [x.1, x.2, y.1]; simp; omega)
  rw [x.2, y.2, show a / 512 * 512 + a % 512 = a by omega] at h
  exact h

theorem in_of {x : Nat} {n : Int} (h : wB x n = true) : ge0 x = true ∧ ltZ x n = true ∧ isW x = true ∧ wP x n = intOfF x := by
  unfold wB at h
  simp only [Bool.and_eq_true] at h
  refine ⟨h.1, h.2.1, h.2.2, ?_⟩
  unfold wP
  rw [h.1, h.2.1]
  rfl

theorem isW_Num {x : Nat} {n : Int} (h0 : 0 ≤ n) (h1 : n ≤ 6400) (g : ge0 x = true) (l : ltZ x n = true) (h : isW x = true) : Num x (intOfF x) ∧ intOfF x < n := by
  obtain ⟨_, a, b⟩ := within_F h0 h1 g l
  have e := order_swap (eq_of_beq h)
  have q := num_of_eq (by omega) e
  refine ⟨q, ?_⟩
  rw [ltZ_N h0, Num_lt q (by omega)] at l
  have := of_decide_eq_true l
  omega

theorem at_back (x y : Nat) (w : World) (h : adB x y = true) :
    Calls Try.prog 19 #[.int .i64 (wP x 6400 * 512 + wP y 512)] w fun e w' => e = .returned (.tuple #[.complex .f64 (F (intOfF x)) (F (intOfF y)), .int .i64 0]) ∧ w' = w := by
  unfold adB at h
  simp only [Bool.and_eq_true, decide_eq_true_eq] at h
  obtain ⟨h1, h2, h3⟩ := h
  obtain ⟨a1, a2, a3, a4⟩ := in_of h1
  obtain ⟨b1, b2, b3, b4⟩ := in_of h2
  have p := isW_Num (by omega) (by omega) a1 a2 a3
  have q := isW_Num (by omega) (by omega) b1 b2 b3
  have r := (within_F (by omega) (by omega) a1 a2).2
  have s := (within_F (by omega) (by omega) b1 b2).2
  rw [a4] at h3 ⊢
  rw [b4]
  have t := at_in (intOfF x * 512 + intOfF y) w (by omega) (by omega)
  rw [show (intOfF x * 512 + intOfF y) / 512 = intOfF x by omega, show (intOfF x * 512 + intOfF y) % 512 = intOfF y by omega] at t
  exact t

theorem ad_all {x y : Nat} (b1 : (FloatKind.f64.format.order x 4643211215818981376 == some .gt || FloatKind.f64.format.order x 4643211215818981376 == some .eq) = true)
    (b2 : (FloatKind.f64.format.order x 4663758889118859264 == some .lt) = true) (b3 : (FloatKind.f64.format.order y 0 == some .gt || FloatKind.f64.format.order y 0 == some .eq) = true)
    (b4 : (FloatKind.f64.format.order y 4647714815446351872 == some .lt) = true) :
    floatToIntVal .f64 x .i64 = some (intOfF x) ∧ floatToIntVal .f64 y .i64 = some (intOfF y) ∧
    ((FloatKind.f64.format.order (F (intOfF x)) x == some .eq) = true → (FloatKind.f64.format.order (F (intOfF y)) y == some .eq) = true → adB x y = true) := by
  rw [← F256] at b1
  have g : ge0 x = true := by
    unfold ge0
    rw [← F_zero]
    exact ge_mono (b := 256) (by decide) (by decide) (by decide) b1
  have l : ltZ x 6400 = true := by unfold ltZ; rw [F6400]; exact b2
  have g' : ge0 y = true := b3
  have l' : ltZ y 512 = true := by unfold ltZ; rw [F512]; exact b4
  refine ⟨toIntVal' (by omega) (by omega) g l, toIntVal' (by omega) (by omega) g' l', fun e1 e2 => ?_⟩
  have n := isW_Num (by omega) (by omega) g l e1
  have : 256 ≤ intOfF x := of_decide_eq_true ((Num_ge n.1 (by decide)).symm.trans b1)
  have i1 : isW x = true := e1
  have i2 : isW y = true := e2
  unfold adB wB wP
  rw [g, l, g', l', i1, i2]
  simp only [Bool.and_self, if_true, Bool.true_and]
  exact decide_eq_true this

/-! the walk -/
theorem places_in_yes (a n : Int) (x y : Nat) (w : World) (h0 : 131072 ≤ a) (h1 : a < 3276800) (hd : adB x y = true) :
    Calls Try.prog 7 #[.int .i64 a, .int .i64 n, .float .f64 x, .float .f64 y] w fun e w' => e = .returned (.bool true) ∧ Below w.heap.size w w' := by
  have r1 : (FloatKind.f64.format.order (F (a / 512)) (floatOfInt .f64 (a / 512)) != some .eq) = false := congrArg not ((eq_F (by omega) (by omega)).trans (decide_eq_true rfl) : (FloatKind.f64.format.order (F (a / 512)) (floatOfInt .f64 (a / 512)) == some .eq) = true)
  have r2 : (FloatKind.f64.format.order (F (a % 512)) (floatOfInt .f64 (a % 512)) != some .eq) = false := congrArg not ((eq_F (by omega) (by omega)).trans (decide_eq_true rfl) : (FloatKind.f64.format.order (F (a % 512)) (floatOfInt .f64 (a % 512)) == some .eq) = true)
  obtain ⟨g1, g2⟩ : isW x = true ∧ isW y = true := by
    unfold adB at hd
    simp only [Bool.and_eq_true] at hd
    exact ⟨(in_of hd.1).2.2.1, (in_of hd.2.1).2.2.1⟩
  have e1 : (FloatKind.f64.format.order (F (intOfF x)) x == some .eq) = true := g1
  have e2 : (FloatKind.f64.format.order (F (intOfF y)) y == some .eq) = true := g2
  clear g1 g2
  replace hd := Lib.hid hd
  go_enter Try.func7, Try.ntmps7
  go_wp2_with fail
  refine (at_in _ _ h0 h1).mono ?_; rintro e w' ⟨rfl, hw⟩; obtain rfl := hw.symm
  clear hw
  go_wp2_with fail
  refine (awake_any _).mono ?_; rintro e w1 ⟨rfl, n1, hw1⟩
  go_wp2_with fail
  refine (within2_any _ _ _).mono ?_; rintro e w' ⟨rfl, hw⟩; obtain rfl := hw.symm
  clear hw
  go_wp2_with fail
  refine (refWithin_any _ _ _).mono ?_; rintro e w' ⟨rfl, hw⟩; obtain rfl := hw.symm
  clear hw
  go_wp2_with fail
  refine (addr_at _ _ h0 h1).mono ?_; rintro e w' ⟨rfl, hw⟩; obtain rfl := hw.symm
  clear hw
  go_wp2_with fail
  refine (addr_yes _ _ _ hd.out).mono ?_; rintro e w' ⟨rfl, hw⟩; obtain rfl := hw.symm
  clear hw
  go_wp2_with fail
  refine (at_back _ _ _ hd.out).mono ?_; rintro e w' ⟨rfl, hw⟩; obtain rfl := hw.symm
  clear hw
  go_wp2_with fail
  go_ret
  exact ⟨rfl, belowN (Below.refl _ _) _⟩

set_option maxHeartbeats 1000000 in
theorem places_in_no (a n : Int) (x y : Nat) (w : World) (h0 : 131072 ≤ a) (h1 : a < 3276800) (hd : adB x y = false) :
    Calls Try.prog 7 #[.int .i64 a, .int .i64 n, .float .f64 x, .float .f64 y] w fun e w' => e = .returned (.bool true) ∧ Below w.heap.size w w' := by
  have r1 : (FloatKind.f64.format.order (F (a / 512)) (floatOfInt .f64 (a / 512)) != some .eq) = false := congrArg not ((eq_F (by omega) (by omega)).trans (decide_eq_true rfl) : (FloatKind.f64.format.order (F (a / 512)) (floatOfInt .f64 (a / 512)) == some .eq) = true)
  have r2 : (FloatKind.f64.format.order (F (a % 512)) (floatOfInt .f64 (a % 512)) != some .eq) = false := congrArg not ((eq_F (by omega) (by omega)).trans (decide_eq_true rfl) : (FloatKind.f64.format.order (F (a % 512)) (floatOfInt .f64 (a % 512)) == some .eq) = true)
  replace hd := Lib.hid hd
  cases b1 : (FloatKind.f64.format.order x 4643211215818981376 == some .gt || FloatKind.f64.format.order x 4643211215818981376 == some .eq) with
  | false =>
    go_enter Try.func7, Try.ntmps7
    go_wp2_with fail
    refine (at_in _ _ h0 h1).mono ?_; rintro e w' ⟨rfl, hw⟩; obtain rfl := hw.symm
    clear hw
    go_wp2_with fail
    refine (awake_any _).mono ?_; rintro e w1 ⟨rfl, n1, hw1⟩
    go_wp2_with fail
    refine (within2_any _ _ _).mono ?_; rintro e w' ⟨rfl, hw⟩; obtain rfl := hw.symm
    clear hw
    go_wp2_with fail
    refine (refWithin_any _ _ _).mono ?_; rintro e w' ⟨rfl, hw⟩; obtain rfl := hw.symm
    clear hw
    go_wp2_with fail
    refine (addr_at _ _ h0 h1).mono ?_; rintro e w' ⟨rfl, hw⟩; obtain rfl := hw.symm
    clear hw
    go_wp2_with fail
    refine (addr_no _ _ _ hd.out).mono ?_; rintro e w' ⟨rfl, hw⟩; obtain rfl := hw.symm
    clear hw
    go_wp2_with fail
    go_ret
    exact ⟨rfl, belowN (Below.refl _ _) _⟩
  | true =>
    cases b2 : (FloatKind.f64.format.order x 4663758889118859264 == some .lt) with
    | false =>
      go_enter Try.func7, Try.ntmps7
      go_wp2_with fail
      refine (at_in _ _ h0 h1).mono ?_; rintro e w' ⟨rfl, hw⟩; obtain rfl := hw.symm
      clear hw
      go_wp2_with fail
      refine (awake_any _).mono ?_; rintro e w1 ⟨rfl, n1, hw1⟩
      go_wp2_with fail
      refine (within2_any _ _ _).mono ?_; rintro e w' ⟨rfl, hw⟩; obtain rfl := hw.symm
      clear hw
      go_wp2_with fail
      refine (refWithin_any _ _ _).mono ?_; rintro e w' ⟨rfl, hw⟩; obtain rfl := hw.symm
      clear hw
      go_wp2_with fail
      refine (addr_at _ _ h0 h1).mono ?_; rintro e w' ⟨rfl, hw⟩; obtain rfl := hw.symm
      clear hw
      go_wp2_with fail
      refine (addr_no _ _ _ hd.out).mono ?_; rintro e w' ⟨rfl, hw⟩; obtain rfl := hw.symm
      clear hw
      go_wp2_with fail
      go_ret
      exact ⟨rfl, belowN (Below.refl _ _) _⟩
    | true =>
      cases b3 : (FloatKind.f64.format.order y 0 == some .gt || FloatKind.f64.format.order y 0 == some .eq) with
      | false =>
        go_enter Try.func7, Try.ntmps7
        go_wp2_with fail
        refine (at_in _ _ h0 h1).mono ?_; rintro e w' ⟨rfl, hw⟩; obtain rfl := hw.symm
        clear hw
        go_wp2_with fail
        refine (awake_any _).mono ?_; rintro e w1 ⟨rfl, n1, hw1⟩
        go_wp2_with fail
        refine (within2_any _ _ _).mono ?_; rintro e w' ⟨rfl, hw⟩; obtain rfl := hw.symm
        clear hw
        go_wp2_with fail
        refine (refWithin_any _ _ _).mono ?_; rintro e w' ⟨rfl, hw⟩; obtain rfl := hw.symm
        clear hw
        go_wp2_with fail
        refine (addr_at _ _ h0 h1).mono ?_; rintro e w' ⟨rfl, hw⟩; obtain rfl := hw.symm
        clear hw
        go_wp2_with fail
        refine (addr_no _ _ _ hd.out).mono ?_; rintro e w' ⟨rfl, hw⟩; obtain rfl := hw.symm
        clear hw
        go_wp2_with fail
        go_ret
        exact ⟨rfl, belowN (Below.refl _ _) _⟩
      | true =>
        cases b4 : (FloatKind.f64.format.order y 4647714815446351872 == some .lt) with
        | false =>
          go_enter Try.func7, Try.ntmps7
          go_wp2_with fail
          refine (at_in _ _ h0 h1).mono ?_; rintro e w' ⟨rfl, hw⟩; obtain rfl := hw.symm
          clear hw
          go_wp2_with fail
          refine (awake_any _).mono ?_; rintro e w1 ⟨rfl, n1, hw1⟩
          go_wp2_with fail
          refine (within2_any _ _ _).mono ?_; rintro e w' ⟨rfl, hw⟩; obtain rfl := hw.symm
          clear hw
          go_wp2_with fail
          refine (refWithin_any _ _ _).mono ?_; rintro e w' ⟨rfl, hw⟩; obtain rfl := hw.symm
          clear hw
          go_wp2_with fail
          refine (addr_at _ _ h0 h1).mono ?_; rintro e w' ⟨rfl, hw⟩; obtain rfl := hw.symm
          clear hw
          go_wp2_with fail
          refine (addr_no _ _ _ hd.out).mono ?_; rintro e w' ⟨rfl, hw⟩; obtain rfl := hw.symm
          clear hw
          go_wp2_with fail
          go_ret
          exact ⟨rfl, belowN (Below.refl _ _) _⟩
        | true =>
          obtain ⟨q1, q2, q3⟩ := ad_all b1 b2 b3 b4
          have c1 := fun w => conv_fn x _ w q1
          have c2 := fun w => conv_fn y _ w q2
          clear q1 q2
          cases e1 : (FloatKind.f64.format.order (F (intOfF x)) x == some .eq) with
          | false =>
            have e1' : (FloatKind.f64.format.order (floatOfInt .f64 (intOfF x)) x == some .eq) = false := e1
            clear q3 e1
            go_enter Try.func7, Try.ntmps7
            go_wp2_with fail
            refine (at_in _ _ h0 h1).mono ?_; rintro e w' ⟨rfl, hw⟩; obtain rfl := hw.symm
            clear hw
            go_wp2_with fail
            refine (awake_any _).mono ?_; rintro e w1 ⟨rfl, n1, hw1⟩
            go_wp2_with fail
            refine (within2_any _ _ _).mono ?_; rintro e w' ⟨rfl, hw⟩; obtain rfl := hw.symm
            clear hw
            go_wp2_with fail
            refine (refWithin_any _ _ _).mono ?_; rintro e w' ⟨rfl, hw⟩; obtain rfl := hw.symm
            clear hw
            go_wp2_with fail
            refine (addr_at _ _ h0 h1).mono ?_; rintro e w' ⟨rfl, hw⟩; obtain rfl := hw.symm
            clear hw
            go_wp2_with fail
            refine (addr_no _ _ _ hd.out).mono ?_; rintro e w' ⟨rfl, hw⟩; obtain rfl := hw.symm
            clear hw
            go_wp2_with fail
            go_ret
            exact ⟨rfl, belowN (Below.refl _ _) _⟩
          | true =>
            have e1' : (FloatKind.f64.format.order (floatOfInt .f64 (intOfF x)) x == some .eq) = true := e1
            cases e2 : (FloatKind.f64.format.order (F (intOfF y)) y == some .eq) with
            | false =>
              have e2' : (FloatKind.f64.format.order (floatOfInt .f64 (intOfF y)) y == some .eq) = false := e2
              clear q3 e1 e2
              go_enter Try.func7, Try.ntmps7
              go_wp2_with fail
              refine (at_in _ _ h0 h1).mono ?_; rintro e w' ⟨rfl, hw⟩; obtain rfl := hw.symm
              clear hw
              go_wp2_with fail
              refine (awake_any _).mono ?_; rintro e w1 ⟨rfl, n1, hw1⟩
              go_wp2_with fail
              refine (within2_any _ _ _).mono ?_; rintro e w' ⟨rfl, hw⟩; obtain rfl := hw.symm
              clear hw
              go_wp2_with fail
              refine (refWithin_any _ _ _).mono ?_; rintro e w' ⟨rfl, hw⟩; obtain rfl := hw.symm
              clear hw
              go_wp2_with fail
              refine (addr_at _ _ h0 h1).mono ?_; rintro e w' ⟨rfl, hw⟩; obtain rfl := hw.symm
              clear hw
              go_wp2_with fail
              refine (addr_no _ _ _ hd.out).mono ?_; rintro e w' ⟨rfl, hw⟩; obtain rfl := hw.symm
              clear hw
              go_wp2_with fail
              go_ret
              exact ⟨rfl, belowN (Below.refl _ _) _⟩
            | true => exact absurd (q3 e1 e2) (by rw [hd.out]; decide)

theorem places_lo_yes (a n : Int) (x y : Nat) (w : World) (h0 : a < 131072) (hd : adB x y = true) :
    Calls Try.prog 7 #[.int .i64 a, .int .i64 n, .float .f64 x, .float .f64 y] w fun e w' => e = .returned (.bool true) ∧ Below w.heap.size w w' := by
  have h := Lib.hid (show a < 131072 ∨ 3276800 ≤ a by omega)
  obtain ⟨g1, g2⟩ : isW x = true ∧ isW y = true := by
    unfold adB at hd
    simp only [Bool.and_eq_true] at hd
    exact ⟨(in_of hd.1).2.2.1, (in_of hd.2.1).2.2.1⟩
  have e1 : (FloatKind.f64.format.order (F (intOfF x)) x == some .eq) = true := g1
  have e2 : (FloatKind.f64.format.order (F (intOfF y)) y == some .eq) = true := g2
  clear g1 g2
  replace hd := Lib.hid hd
  go_enter Try.func7, Try.ntmps7
  go_wp2_with fail
  refine (at_out _ _ h.out).mono ?_; rintro e w' ⟨rfl, hw⟩; obtain rfl := hw.symm
  clear hw
  go_wp2_with fail
  refine (awake_any _).mono ?_; rintro e w1 ⟨rfl, n1, hw1⟩
  go_wp2_with fail
  refine (within2_any _ _ _).mono ?_; rintro e w' ⟨rfl, hw⟩; obtain rfl := hw.symm
  clear hw
  go_wp2_with fail
  refine (refWithin_any _ _ _).mono ?_; rintro e w' ⟨rfl, hw⟩; obtain rfl := hw.symm
  clear hw
  go_wp2_with fail
  refine (addr_yes _ _ _ hd.out).mono ?_; rintro e w' ⟨rfl, hw⟩; obtain rfl := hw.symm
  clear hw
  go_wp2_with fail
  refine (at_back _ _ _ hd.out).mono ?_; rintro e w' ⟨rfl, hw⟩; obtain rfl := hw.symm
  clear hw
  go_wp2_with fail
  go_ret
  exact ⟨rfl, belowN (Below.refl _ _) _⟩

set_option maxHeartbeats 1000000 in
theorem places_lo_no (a n : Int) (x y : Nat) (w : World) (h0 : a < 131072) (hd : adB x y = false) :
    Calls Try.prog 7 #[.int .i64 a, .int .i64 n, .float .f64 x, .float .f64 y] w fun e w' => e = .returned (.bool true) ∧ Below w.heap.size w w' := by
  have h := Lib.hid (show a < 131072 ∨ 3276800 ≤ a by omega)
  replace hd := Lib.hid hd
  cases b1 : (FloatKind.f64.format.order x 4643211215818981376 == some .gt || FloatKind.f64.format.order x 4643211215818981376 == some .eq) with
  | false =>
    go_enter Try.func7, Try.ntmps7
    go_wp2_with fail
    refine (at_out _ _ h.out).mono ?_; rintro e w' ⟨rfl, hw⟩; obtain rfl := hw.symm
    clear hw
    go_wp2_with fail
    refine (awake_any _).mono ?_; rintro e w1 ⟨rfl, n1, hw1⟩
    go_wp2_with fail
    refine (within2_any _ _ _).mono ?_; rintro e w' ⟨rfl, hw⟩; obtain rfl := hw.symm
    clear hw
    go_wp2_with fail
    refine (refWithin_any _ _ _).mono ?_; rintro e w' ⟨rfl, hw⟩; obtain rfl := hw.symm
    clear hw
    go_wp2_with fail
    refine (addr_no _ _ _ hd.out).mono ?_; rintro e w' ⟨rfl, hw⟩; obtain rfl := hw.symm
    clear hw
    go_wp2_with fail
    go_ret
    exact ⟨rfl, belowN (Below.refl _ _) _⟩
  | true =>
    cases b2 : (FloatKind.f64.format.order x 4663758889118859264 == some .lt) with
    | false =>
      go_enter Try.func7, Try.ntmps7
      go_wp2_with fail
      refine (at_out _ _ h.out).mono ?_; rintro e w' ⟨rfl, hw⟩; obtain rfl := hw.symm
      clear hw
      go_wp2_with fail
      refine (awake_any _).mono ?_; rintro e w1 ⟨rfl, n1, hw1⟩
      go_wp2_with fail
      refine (within2_any _ _ _).mono ?_; rintro e w' ⟨rfl, hw⟩; obtain rfl := hw.symm
      clear hw
      go_wp2_with fail
      refine (refWithin_any _ _ _).mono ?_; rintro e w' ⟨rfl, hw⟩; obtain rfl := hw.symm
      clear hw
      go_wp2_with fail
      refine (addr_no _ _ _ hd.out).mono ?_; rintro e w' ⟨rfl, hw⟩; obtain rfl := hw.symm
      clear hw
      go_wp2_with fail
      go_ret
      exact ⟨rfl, belowN (Below.refl _ _) _⟩
    | true =>
      cases b3 : (FloatKind.f64.format.order y 0 == some .gt || FloatKind.f64.format.order y 0 == some .eq) with
      | false =>
        go_enter Try.func7, Try.ntmps7
        go_wp2_with fail
        refine (at_out _ _ h.out).mono ?_; rintro e w' ⟨rfl, hw⟩; obtain rfl := hw.symm
        clear hw
        go_wp2_with fail
        refine (awake_any _).mono ?_; rintro e w1 ⟨rfl, n1, hw1⟩
        go_wp2_with fail
        refine (within2_any _ _ _).mono ?_; rintro e w' ⟨rfl, hw⟩; obtain rfl := hw.symm
        clear hw
        go_wp2_with fail
        refine (refWithin_any _ _ _).mono ?_; rintro e w' ⟨rfl, hw⟩; obtain rfl := hw.symm
        clear hw
        go_wp2_with fail
        refine (addr_no _ _ _ hd.out).mono ?_; rintro e w' ⟨rfl, hw⟩; obtain rfl := hw.symm
        clear hw
        go_wp2_with fail
        go_ret
        exact ⟨rfl, belowN (Below.refl _ _) _⟩
      | true =>
        cases b4 : (FloatKind.f64.format.order y 4647714815446351872 == some .lt) with
        | false =>
          go_enter Try.func7, Try.ntmps7
          go_wp2_with fail
          refine (at_out _ _ h.out).mono ?_; rintro e w' ⟨rfl, hw⟩; obtain rfl := hw.symm
          clear hw
          go_wp2_with fail
          refine (awake_any _).mono ?_; rintro e w1 ⟨rfl, n1, hw1⟩
          go_wp2_with fail
          refine (within2_any _ _ _).mono ?_; rintro e w' ⟨rfl, hw⟩; obtain rfl := hw.symm
          clear hw
          go_wp2_with fail
          refine (refWithin_any _ _ _).mono ?_; rintro e w' ⟨rfl, hw⟩; obtain rfl := hw.symm
          clear hw
          go_wp2_with fail
          refine (addr_no _ _ _ hd.out).mono ?_; rintro e w' ⟨rfl, hw⟩; obtain rfl := hw.symm
          clear hw
          go_wp2_with fail
          go_ret
          exact ⟨rfl, belowN (Below.refl _ _) _⟩
        | true =>
          obtain ⟨q1, q2, q3⟩ := ad_all b1 b2 b3 b4
          have c1 := fun w => conv_fn x _ w q1
          have c2 := fun w => conv_fn y _ w q2
          clear q1 q2
          cases e1 : (FloatKind.f64.format.order (F (intOfF x)) x == some .eq) with
          | false =>
            have e1' : (FloatKind.f64.format.order (floatOfInt .f64 (intOfF x)) x == some .eq) = false := e1
            clear q3 e1
            go_enter Try.func7, Try.ntmps7
            go_wp2_with fail
            refine (at_out _ _ h.out).mono ?_; rintro e w' ⟨rfl, hw⟩; obtain rfl := hw.symm
            clear hw
            go_wp2_with fail
            refine (awake_any _).mono ?_; rintro e w1 ⟨rfl, n1, hw1⟩
            go_wp2_with fail
            refine (within2_any _ _ _).mono ?_; rintro e w' ⟨rfl, hw⟩; obtain rfl := hw.symm
            clear hw
            go_wp2_with fail
            refine (refWithin_any _ _ _).mono ?_; rintro e w' ⟨rfl, hw⟩; obtain rfl := hw.symm
            clear hw
            go_wp2_with fail
            refine (addr_no _ _ _ hd.out).mono ?_; rintro e w' ⟨rfl, hw⟩; obtain rfl := hw.symm
            clear hw
            go_wp2_with fail
            go_ret
            exact ⟨rfl, belowN (Below.refl _ _) _⟩
          | true =>
            have e1' : (FloatKind.f64.format.order (floatOfInt .f64 (intOfF x)) x == some .eq) = true := e1
            cases e2 : (FloatKind.f64.format.order (F (intOfF y)) y == some .eq) with
            | false =>
              have e2' : (FloatKind.f64.format.order (floatOfInt .f64 (intOfF y)) y == some .eq) = false := e2
              clear q3 e1 e2
              go_enter Try.func7, Try.ntmps7
              go_wp2_with fail
              refine (at_out _ _ h.out).mono ?_; rintro e w' ⟨rfl, hw⟩; obtain rfl := hw.symm
              clear hw
              go_wp2_with fail
              refine (awake_any _).mono ?_; rintro e w1 ⟨rfl, n1, hw1⟩
              go_wp2_with fail
              refine (within2_any _ _ _).mono ?_; rintro e w' ⟨rfl, hw⟩; obtain rfl := hw.symm
              clear hw
              go_wp2_with fail
              refine (refWithin_any _ _ _).mono ?_; rintro e w' ⟨rfl, hw⟩; obtain rfl := hw.symm
              clear hw
              go_wp2_with fail
              refine (addr_no _ _ _ hd.out).mono ?_; rintro e w' ⟨rfl, hw⟩; obtain rfl := hw.symm
              clear hw
              go_wp2_with fail
              go_ret
              exact ⟨rfl, belowN (Below.refl _ _) _⟩
            | true => exact absurd (q3 e1 e2) (by rw [hd.out]; decide)

theorem places_hi_yes (a n : Int) (x y : Nat) (w : World) (h0 : 3276800 ≤ a) (hd : adB x y = true) :
    Calls Try.prog 7 #[.int .i64 a, .int .i64 n, .float .f64 x, .float .f64 y] w fun e w' => e = .returned (.bool true) ∧ Below w.heap.size w w' := by
  have h := Lib.hid (show a < 131072 ∨ 3276800 ≤ a by omega)
  have h1 : 131072 ≤ a := by omega
  obtain ⟨g1, g2⟩ : isW x = true ∧ isW y = true := by
    unfold adB at hd
    simp only [Bool.and_eq_true] at hd
    exact ⟨(in_of hd.1).2.2.1, (in_of hd.2.1).2.2.1⟩
  have e1 : (FloatKind.f64.format.order (F (intOfF x)) x == some .eq) = true := g1
  have e2 : (FloatKind.f64.format.order (F (intOfF y)) y == some .eq) = true := g2
  clear g1 g2
  replace hd := Lib.hid hd
  go_enter Try.func7, Try.ntmps7
  go_wp2_with fail
  refine (at_out _ _ h.out).mono ?_; rintro e w' ⟨rfl, hw⟩; obtain rfl := hw.symm
  clear hw
  go_wp2_with fail
  refine (awake_any _).mono ?_; rintro e w1 ⟨rfl, n1, hw1⟩
  go_wp2_with fail
  refine (within2_any _ _ _).mono ?_; rintro e w' ⟨rfl, hw⟩; obtain rfl := hw.symm
  clear hw
  go_wp2_with fail
  refine (refWithin_any _ _ _).mono ?_; rintro e w' ⟨rfl, hw⟩; obtain rfl := hw.symm
  clear hw
  go_wp2_with fail
  refine (addr_yes _ _ _ hd.out).mono ?_; rintro e w' ⟨rfl, hw⟩; obtain rfl := hw.symm
  clear hw
  go_wp2_with fail
  refine (at_back _ _ _ hd.out).mono ?_; rintro e w' ⟨rfl, hw⟩; obtain rfl := hw.symm
  clear hw
  go_wp2_with fail
  go_ret
  exact ⟨rfl, belowN (Below.refl _ _) _⟩

set_option maxHeartbeats 1000000 in
theorem places_hi_no (a n : Int) (x y : Nat) (w : World) (h0 : 3276800 ≤ a) (hd : adB x y = false) :
    Calls Try.prog 7 #[.int .i64 a, .int .i64 n, .float .f64 x, .float .f64 y] w fun e w' => e = .returned (.bool true) ∧ Below w.heap.size w w' := by
  have h := Lib.hid (show a < 131072 ∨ 3276800 ≤ a by omega)
  have h1 : 131072 ≤ a := by omega
  replace hd := Lib.hid hd
  cases b1 : (FloatKind.f64.format.order x 4643211215818981376 == some .gt || FloatKind.f64.format.order x 4643211215818981376 == some .eq) with
  | false =>
    go_enter Try.func7, Try.ntmps7
    go_wp2_with fail
    refine (at_out _ _ h.out).mono ?_; rintro e w' ⟨rfl, hw⟩; obtain rfl := hw.symm
    clear hw
    go_wp2_with fail
    refine (awake_any _).mono ?_; rintro e w1 ⟨rfl, n1, hw1⟩
    go_wp2_with fail
    refine (within2_any _ _ _).mono ?_; rintro e w' ⟨rfl, hw⟩; obtain rfl := hw.symm
    clear hw
    go_wp2_with fail
    refine (refWithin_any _ _ _).mono ?_; rintro e w' ⟨rfl, hw⟩; obtain rfl := hw.symm
    clear hw
    go_wp2_with fail
    refine (addr_no _ _ _ hd.out).mono ?_; rintro e w' ⟨rfl, hw⟩; obtain rfl := hw.symm
    clear hw
    go_wp2_with fail
    go_ret
    exact ⟨rfl, belowN (Below.refl _ _) _⟩
  | true =>
    cases b2 : (FloatKind.f64.format.order x 4663758889118859264 == some .lt) with
    | false =>
      go_enter Try.func7, Try.ntmps7
      go_wp2_with fail
      refine (at_out _ _ h.out).mono ?_; rintro e w' ⟨rfl, hw⟩; obtain rfl := hw.symm
      clear hw
      go_wp2_with fail
      refine (awake_any _).mono ?_; rintro e w1 ⟨rfl, n1, hw1⟩
      go_wp2_with fail
      refine (within2_any _ _ _).mono ?_; rintro e w' ⟨rfl, hw⟩; obtain rfl := hw.symm
      clear hw
      go_wp2_with fail
      refine (refWithin_any _ _ _).mono ?_; rintro e w' ⟨rfl, hw⟩; obtain rfl := hw.symm
      clear hw
      go_wp2_with fail
      refine (addr_no _ _ _ hd.out).mono ?_; rintro e w' ⟨rfl, hw⟩; obtain rfl := hw.symm
      clear hw
      go_wp2_with fail
      go_ret
      exact ⟨rfl, belowN (Below.refl _ _) _⟩
    | true =>
      cases b3 : (FloatKind.f64.format.order y 0 == some .gt || FloatKind.f64.format.order y 0 == some .eq) with
      | false =>
        go_enter Try.func7, Try.ntmps7
        go_wp2_with fail
        refine (at_out _ _ h.out).mono ?_; rintro e w' ⟨rfl, hw⟩; obtain rfl := hw.symm
        clear hw
        go_wp2_with fail
        refine (awake_any _).mono ?_; rintro e w1 ⟨rfl, n1, hw1⟩
        go_wp2_with fail
        refine (within2_any _ _ _).mono ?_; rintro e w' ⟨rfl, hw⟩; obtain rfl := hw.symm
        clear hw
        go_wp2_with fail
        refine (refWithin_any _ _ _).mono ?_; rintro e w' ⟨rfl, hw⟩; obtain rfl := hw.symm
        clear hw
        go_wp2_with fail
        refine (addr_no _ _ _ hd.out).mono ?_; rintro e w' ⟨rfl, hw⟩; obtain rfl := hw.symm
        clear hw
        go_wp2_with fail
        go_ret
        exact ⟨rfl, belowN (Below.refl _ _) _⟩
      | true =>
        cases b4 : (FloatKind.f64.format.order y 4647714815446351872 == some .lt) with
        | false =>
          go_enter Try.func7, Try.ntmps7
          go_wp2_with fail
          refine (at_out _ _ h.out).mono ?_; rintro e w' ⟨rfl, hw⟩; obtain rfl := hw.symm
          clear hw
          go_wp2_with fail
          refine (awake_any _).mono ?_; rintro e w1 ⟨rfl, n1, hw1⟩
          go_wp2_with fail
          refine (within2_any _ _ _).mono ?_; rintro e w' ⟨rfl, hw⟩; obtain rfl := hw.symm
          clear hw
          go_wp2_with fail
          refine (refWithin_any _ _ _).mono ?_; rintro e w' ⟨rfl, hw⟩; obtain rfl := hw.symm
          clear hw
          go_wp2_with fail
          refine (addr_no _ _ _ hd.out).mono ?_; rintro e w' ⟨rfl, hw⟩; obtain rfl := hw.symm
          clear hw
          go_wp2_with fail
          go_ret
          exact ⟨rfl, belowN (Below.refl _ _) _⟩
        | true =>
          obtain ⟨q1, q2, q3⟩ := ad_all b1 b2 b3 b4
          have c1 := fun w => conv_fn x _ w q1
          have c2 := fun w => conv_fn y _ w q2
          clear q1 q2
          cases e1 : (FloatKind.f64.format.order (F (intOfF x)) x == some .eq) with
          | false =>
            have e1' : (FloatKind.f64.format.order (floatOfInt .f64 (intOfF x)) x == some .eq) = false := e1
            clear q3 e1
            go_enter Try.func7, Try.ntmps7
            go_wp2_with fail
            refine (at_out _ _ h.out).mono ?_; rintro e w' ⟨rfl, hw⟩; obtain rfl := hw.symm
            clear hw
            go_wp2_with fail
            refine (awake_any _).mono ?_; rintro e w1 ⟨rfl, n1, hw1⟩
            go_wp2_with fail
            refine (within2_any _ _ _).mono ?_; rintro e w' ⟨rfl, hw⟩; obtain rfl := hw.symm
            clear hw
            go_wp2_with fail
            refine (refWithin_any _ _ _).mono ?_; rintro e w' ⟨rfl, hw⟩; obtain rfl := hw.symm
            clear hw
            go_wp2_with fail
            refine (addr_no _ _ _ hd.out).mono ?_; rintro e w' ⟨rfl, hw⟩; obtain rfl := hw.symm
            clear hw
            go_wp2_with fail
            go_ret
            exact ⟨rfl, belowN (Below.refl _ _) _⟩
          | true =>
            have e1' : (FloatKind.f64.format.order (floatOfInt .f64 (intOfF x)) x == some .eq) = true := e1
            cases e2 : (FloatKind.f64.format.order (F (intOfF y)) y == some .eq) with
            | false =>
              have e2' : (FloatKind.f64.format.order (floatOfInt .f64 (intOfF y)) y == some .eq) = false := e2
              clear q3 e1 e2
              go_enter Try.func7, Try.ntmps7
              go_wp2_with fail
              refine (at_out _ _ h.out).mono ?_; rintro e w' ⟨rfl, hw⟩; obtain rfl := hw.symm
              clear hw
              go_wp2_with fail
              refine (awake_any _).mono ?_; rintro e w1 ⟨rfl, n1, hw1⟩
              go_wp2_with fail
              refine (within2_any _ _ _).mono ?_; rintro e w' ⟨rfl, hw⟩; obtain rfl := hw.symm
              clear hw
              go_wp2_with fail
              refine (refWithin_any _ _ _).mono ?_; rintro e w' ⟨rfl, hw⟩; obtain rfl := hw.symm
              clear hw
              go_wp2_with fail
              refine (addr_no _ _ _ hd.out).mono ?_; rintro e w' ⟨rfl, hw⟩; obtain rfl := hw.symm
              clear hw
              go_wp2_with fail
              go_ret
              exact ⟨rfl, belowN (Below.refl _ _) _⟩
            | true => exact absurd (q3 e1 e2) (by rw [hd.out]; decide)

theorem placePlaces_walk (a n : Int) (x y : Nat) (w : World) :
    Calls Try.prog 7 #[.int .i64 a, .int .i64 n, .float .f64 x, .float .f64 y] w fun e w' => e = .returned (.bool true) ∧ Below w.heap.size w w' := by
  rcases (by omega : a < 131072 ∨ 3276800 ≤ a ∨ (131072 ≤ a ∧ a < 3276800)) with h | h | ⟨h, g⟩
  · cases hd : adB x y with
    | true => exact places_lo_yes a n x y w h hd
    | false => exact places_lo_no a n x y w h hd
  · cases hd : adB x y with
    | true => exact places_hi_yes a n x y w h hd
    | false => exact places_hi_no a n x y w h hd
  · cases hd : adB x y with
    | true => exact places_in_yes a n x y w h g hd
    | false => exact places_in_no a n x y w h g hd

end Go.Proofs.Ytbefbkjhfkdihaa
