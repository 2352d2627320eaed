/- The contracts of package demand over this seat's translation. -/
import Derived.Test.YtjjdnmlfhankjaaDemP
import Derived.Test.YtjjdnmlfhankjaaClsTab
import Derived.Test.YtjjdnmlfhankjaaSumw
import Derived.Test.YtjjdnmlfhankjaaMore
namespace Go.Proofs.Ytjjdnmlfhankjaa
open Go.RowKit Flt
set_option linter.unusedVariables false

attribute [local irreducible] smallT unitT kindT perT pagesT alignT chargeT

theorem may_any (q : Int) (w : World) :
    Calls Try.prog 26 #[.int .i64 q] w fun e w' => e = .returned (.bool (mayB q)) ∧ w' = w := by
  unfold mayB
  by_cases h : 1 ≤ q
  · rw [decide_eq_true h, Bool.true_and]
    go_enter Try.func26, Try.ntmps26
    go_wp2
    go_ret
    exact ⟨rfl, rfl⟩
  · rw [decide_eq_false h, Bool.false_and]
    have h' : q < 1 := by omega
    clear h
    go_enter Try.func26, Try.ntmps26
    go_wp2
    go_ret
    exact ⟨rfl, rfl⟩

theorem runs_any (q : Int) (w : World) :
    Calls Try.prog 15 #[.int .i64 q] w fun e w' => e = .returned (.int .i64 (runsT q)) ∧ w' = w := by
  cases h : mayB q with
  | true =>
    rw [runs_in h]
    obtain ⟨a, b⟩ := may_iff.1 h
    go_enter Try.func15, Try.ntmps15
    go_wp2_with fail
    refine (may_any _ _).mono ?_; rintro e w' ⟨rfl, hw⟩; obtain rfl := hw.symm
    clear hw
    go_wp2_with fail
    go_ret
    exact ⟨rfl, rfl⟩
  | false =>
    rw [runs_out h]
    go_enter Try.func15, Try.ntmps15
    go_wp2_with fail
    refine (may_any _ _).mono ?_; rintro e w' ⟨rfl, hw⟩; obtain rfl := hw.symm
    clear hw
    go_wp2_with fail
    go_ret
    exact ⟨rfl, rfl⟩

theorem by_any (c q : Int) (w : World) :
    Calls Try.prog 11 #[.int .i64 c, .int .i64 q] w fun e w' => e = .returned (.int .i64 (byT c q)) ∧ w' = w := by
  by_cases hc : 0 ≤ c ∧ c ≤ 7
  · obtain ⟨h0, h1⟩ := hc
    obtain ⟨p0, p1⟩ := per_pos h0 h1
    cases h : mayB q with
    | true =>
      rw [by_in h0 h1 h]
      obtain ⟨a, b⟩ := may_iff.1 h
      obtain ⟨u0, u1⟩ := unit_bound c
      have u2 : 16 ≤ unitT c := by have := per_unit h0 h1; omega
      have d0 : 0 ≤ q / unitT c := Int.ediv_nonneg (by omega) (by omega)
      have d1 : q / unitT c ≤ 65536 := Int.le_trans (Int.ediv_le_self _ (by omega)) b
      go_enter Try.func11, Try.ntmps11
      go_wp2_with fail
      refine (per_any _ _).mono ?_; rintro e w' ⟨rfl, hw⟩; obtain rfl := hw.symm
      clear hw
      go_wp2_with fail
      refine (may_any _ _).mono ?_; rintro e w' ⟨rfl, hw⟩; obtain rfl := hw.symm
      clear hw
      go_wp2_with fail
      refine (unit_any _ _).mono ?_; rintro e w' ⟨rfl, hw⟩; obtain rfl := hw.symm
      clear hw
      go_wp2_with fail
      go_ret
      exact ⟨rfl, rfl⟩
    | false =>
      rw [by_zero (.inr h)]
      go_enter Try.func11, Try.ntmps11
      go_wp2_with fail
      refine (per_any _ _).mono ?_; rintro e w' ⟨rfl, hw⟩; obtain rfl := hw.symm
      clear hw
      go_wp2_with fail
      refine (may_any _ _).mono ?_; rintro e w' ⟨rfl, hw⟩; obtain rfl := hw.symm
      clear hw
      go_wp2_with fail
      go_ret
      exact ⟨rfl, rfl⟩
  · have e := per_out (c := c) (by omega)
    rw [by_zero (.inl e)]
    have hp : ∀ w, Calls Try.prog 27 #[.int .i64 c] w fun e w' => e = .returned (.int .i64 0) ∧ w' = w := by
      intro w; have := per_any c w; rwa [e] at this
    replace hp := Lib.hid hp
    clear e hc
    go_enter Try.func11, Try.ntmps11
    go_wp2_with fail
    refine (hp.out _).mono ?_; rintro e w' ⟨rfl, hw⟩; obtain rfl := hw.symm
    clear hw
    go_wp2_with fail
    go_ret
    exact ⟨rfl, rfl⟩

theorem complex_add {a b c d : Int} (h1 : (a + c).natAbs < 2 ^ 53) (h2 : (b + d).natAbs < 2 ^ 53) (ha : a.natAbs < 2 ^ 53) (hb : b.natAbs < 2 ^ 53) (hc : c.natAbs < 2 ^ 53) (hd : d.natAbs < 2 ^ 53) (w : World) (t : TypeId) :
    (binOp .add t (.complex .f64 (F a) (F b)) (.complex .f64 (F c) (F d))).run Try.prog w = .ok (.complex .f64 (F (a + c)) (F (b + d))) w :=
  run_complex_sum (P := Try.prog) w .add (Or.inl rfl) t .f64 (F a) (F b) (F c) (F d) (F (a + c)) (F (b + d))
    (by unfold cSumBits floatBits; simp only [show FloatKind.f64.format = Ieee.double from rfl, add_val (val_F (n := a) (by omega)) (val_F (n := c) (by omega)) (by omega), add_val (val_F (n := b) (by omega)) (val_F (n := d) (by omega)) (by omega), Option.bind_some])

theorem demOf_yes (q : Int) (w : World) (h : mayB q = true) :
    Calls Try.prog 8 #[.int .i64 q] w fun e w' => e = .returned (.tuple #[.complex .f64 (F q) (F (demT q)), .int .i64 0]) ∧ w' = w := by
  obtain ⟨a, b⟩ := may_iff.1 h
  obtain ⟨r0, r1⟩ := runs_bound q
  have H := Lib.hid h
  go_enter Try.func8, Try.ntmps8
  go_wp2_with fail
  refine (may_any _ _).mono ?_; rintro e w' ⟨rfl, hw⟩; obtain rfl := hw.symm
  clear hw
  go_wp2_with fail
  refine (runs_any _ _).mono ?_; rintro e w' ⟨rfl, hw⟩; obtain rfl := hw.symm
  clear hw
  go_wp2_with fail
  go_loop [4, 15] (fun x i => ∃ k : Nat, k ≤ 8 ∧ i = .int .i64 k ∧ x = .complex .f64 (F q) (F (sumBy q k + runsT q))) (fun _ i => 8 - (intOf i).toNat)
  case atStart => exact ⟨0, by omega, rfl, by unfold sumBy; rw [Int.zero_add]; rfl⟩
  case round =>
    obtain ⟨k, hk, rfl, rfl⟩ := hrel
    obtain ⟨s0, s1⟩ := sumBy_bound q k hk
    by_cases hlt : k < 8
    · obtain ⟨y0, y1⟩ := by_bound k q
      have hc : ∀ t, (binOp .add t (.complex .f64 (F q) (F (sumBy q k + runsT q))) (.complex .f64 0 (floatOfInt .f64 (byT k q)))).run Try.prog w = .ok (.complex .f64 (F q) (F (sumBy q (k + 1) + runsT q))) w := fun t => by
        have hc := complex_add (a := q) (b := sumBy q k + runsT q) (c := 0) (d := byT k q) (by omega) (by omega) (by omega) (by omega) (by omega) (by omega) w t
        rw [show F 0 = 0 from F_zero, Int.add_zero, show sumBy q k + runsT q + byT k q = sumBy q (k + 1) + runsT q by show _ = sumBy q k + byT k q + runsT q; omega] at hc
        exact hc
      generalize F (sumBy q k + runsT q) = fa at *
      obtain ⟨fb, hfb⟩ : ∃ fb, fb = F (sumBy q (k + 1) + runsT q) := ⟨_, rfl⟩
      rw [← hfb] at hc
      replace hfb := Lib.hid hfb
      go_wp2_with fail
      refine (by_any _ _ _).mono ?_; rintro e w'' ⟨rfl, hw⟩; obtain rfl := hw.symm
      clear hw
      go_wp2_with fail
      go_round
      case rel => exact ⟨k + 1, by omega, by go_num, by rw [hfb.out]⟩
      case measure => simp [intOf]; omega
    · obtain rfl : k = 8 := by omega
      go_wp2_with fail
      go_ret2
      exact ⟨rfl, rfl⟩

theorem demOf_no (q : Int) (w : World) (h : mayB q = false) :
    Calls Try.prog 8 #[.int .i64 q] w fun e w' => e = .returned (.tuple #[.complex .f64 0 0, .int .i64 12]) ∧ w' = w := by
  go_enter Try.func8, Try.ntmps8
  go_wp2_with fail
  refine (may_any _ _).mono ?_; rintro e w' ⟨rfl, hw⟩; obtain rfl := hw.symm
  clear hw
  go_wp2_with fail
  go_ret2
  exact ⟨rfl, rfl⟩

theorem dem_ok {q : Int} (h : mayB q = true) : okS q (demT q) = true := by
  obtain ⟨a, b⟩ := may_iff.1 h
  have := dem_bound q
  exact okS_iff.2 (by omega)

theorem demFits_any (q p : Int) (w : World) :
    Calls Try.prog 13 #[.int .i64 q, .int .i64 p] w fun e w' => e = .returned (.bool (mayB q && decide (demT q ≤ p))) ∧ w' = w := by
  cases h : mayB q with
  | true =>
    rw [Bool.true_and]
    have hk := Lib.hid (dem_ok h)
    replace h := Lib.hid h
    go_enter Try.func13, Try.ntmps13
    go_wp2_with fail
    refine (demOf_yes _ _ h.out).mono ?_; rintro e w' ⟨rfl, hw⟩; obtain rfl := hw.symm
    clear hw
    go_wp2_with fail
    refine (pages_F _ _ _ hk.out).mono ?_; rintro e w' ⟨rfl, hw⟩; obtain rfl := hw.symm
    clear hw
    go_wp2_with fail
    go_ret
    exact ⟨rfl, rfl⟩
  | false =>
    rw [Bool.false_and]
    replace h := Lib.hid h
    go_enter Try.func13, Try.ntmps13
    go_wp2_with fail
    refine (demOf_no _ _ h.out).mono ?_; rintro e w' ⟨rfl, hw⟩; obtain rfl := hw.symm
    clear hw
    go_wp2_with fail
    go_ret
    exact ⟨rfl, rfl⟩

end Go.Proofs.Ytjjdnmlfhankjaa
