/- The walks of DemandOf, DemandRises and DemandParts. -/
import Derived.Test.YtjjdnmlfhankjaaRef05
import Derived.Deep.RegionHeld3
namespace Go.Proofs.Ytjjdnmlfhankjaa
open Go.RowKit Flt
set_option linter.unusedVariables false

theorem dem1024 : demT 1024 = 20 := by decide
theorem dem16 : demT 16 = 1 := by decide
theorem dem512 : demT 512 = 9 := by decide
theorem by1024 : byT 2 1024 = 3 := by decide

attribute [local irreducible] smallT unitT kindT perT pagesT alignT chargeT

theorem of1024 (w : World) : Calls Try.prog 8 #[.int .i64 1024] w fun e w' => e = .returned (.tuple #[.complex .f64 (F 1024) (F 20), .int .i64 0]) ∧ w' = w := by
  have := demOf_yes 1024 w (by decide)
  rwa [dem1024] at this
theorem of0 (w : World) : Calls Try.prog 8 #[.int .i64 0] w fun e w' => e = .returned (.tuple #[.complex .f64 0 0, .int .i64 12]) ∧ w' = w := demOf_no 0 w (by decide)
theorem by3 (w : World) : Calls Try.prog 11 #[.int .i64 2, .int .i64 1024] w fun e w' => e = .returned (.int .i64 3) ∧ w' = w := by
  have := by_any 2 1024 w
  rwa [by1024] at this
theorem fits16 (w : World) : Calls Try.prog 13 #[.int .i64 16, .int .i64 1] w fun e w' => e = .returned (.bool true) ∧ w' = w := by
  have := demFits_any 16 1 w
  rwa [dem16] at this
theorem fits512 (w : World) : Calls Try.prog 13 #[.int .i64 512, .int .i64 8] w fun e w' => e = .returned (.bool false) ∧ w' = w := by
  have := demFits_any 512 8 w
  rwa [dem512] at this

theorem awake_any (w : World) : Calls Try.prog 10 #[] w fun e w' => e = .returned (.bool true) ∧ w' = w := by
  have k := Lib.hid (ok_lit (a := 1024) (b := 20) (by omega))
  go_enter Try.func10, Try.ntmps10
  go_wp2_with fail
  refine (of1024 _).mono ?_; rintro e w' ⟨rfl, hw⟩; obtain rfl := hw.symm
  clear hw
  go_wp2_with fail
  refine (of0 _).mono ?_; rintro e w' ⟨rfl, hw⟩; obtain rfl := hw.symm
  clear hw
  go_wp2_with fail
  refine (bytes_F _ _ _ k.out).mono ?_; rintro e w' ⟨rfl, hw⟩; obtain rfl := hw.symm
  clear hw
  go_wp2_with fail
  refine (pages_F _ _ _ k.out).mono ?_; rintro e w' ⟨rfl, hw⟩; obtain rfl := hw.symm
  clear hw
  go_wp2_with fail
  refine (by3 _).mono ?_; rintro e w' ⟨rfl, hw⟩; obtain rfl := hw.symm
  clear hw
  go_wp2_with fail
  refine (fits16 _).mono ?_; rintro e w' ⟨rfl, hw⟩; obtain rfl := hw.symm
  clear hw
  go_wp2_with fail
  refine (fits512 _).mono ?_; rintro e w' ⟨rfl, hw⟩; obtain rfl := hw.symm
  clear hw
  go_wp2_with fail
  go_ret
  exact ⟨rfl, rfl⟩

theorem demandOf_walk (q c p : Int) (w : World) :
    Calls Try.prog 3 #[.int .i64 q, .int .i64 c, .int .i64 p] w fun e w' => e = .returned (.bool true) ∧ Below w.heap.size w w' := by
  cases h : mayB q with
  | true =>
    have hF := demFits_any q p
    have hR := refMay_any q
    rw [h] at hF hR
    simp only [Bool.true_and] at hF
    replace hF := Lib.hid hF
    replace hR := Lib.hid hR
    have k := Lib.hid (dem_ok h)
    have hr := runs_in h
    have hR2 := runs_any q
    rw [hr] at hR2
    replace hR2 := Lib.hid hR2
    obtain ⟨m0, m1⟩ := may_iff.1 h
    clear hr
    replace h := Lib.hid h
    go_enter Try.func3, Try.ntmps3
    go_wp2_with fail
    refine (demOf_yes _ _ h.out).mono ?_; rintro e w' ⟨rfl, hw⟩; obtain rfl := hw.symm
    clear hw
    go_wp2_with fail
    refine (hR.out _).mono ?_; rintro e w' ⟨rfl, hw⟩; obtain rfl := hw.symm
    clear hw
    go_wp2_with fail
    refine (awake_any _).mono ?_; rintro e w' ⟨rfl, hw⟩; obtain rfl := hw.symm
    clear hw
    go_wp2_with fail
    refine (by_any _ _ _).mono ?_; rintro e w' ⟨rfl, hw⟩; obtain rfl := hw.symm
    clear hw
    go_wp2_with fail
    refine (refBy_any _ _ _).mono ?_; rintro e w1 ⟨rfl, hb1⟩
    go_wp2_with fail
    refine (hF.out _).mono ?_; rintro e w' ⟨rfl, hw⟩; obtain rfl := hw.symm
    clear hw
    go_wp2_with fail
    refine (refPages05_any _ _).mono ?_; rintro e w2 ⟨rfl, hb2⟩
    go_wp2_with fail
    refine (bytes_F _ _ _ k.out).mono ?_; rintro e w' ⟨rfl, hw⟩; obtain rfl := hw.symm
    clear hw
    go_wp2_with fail
    refine (pages_F _ _ _ k.out).mono ?_; rintro e w' ⟨rfl, hw⟩; obtain rfl := hw.symm
    clear hw
    go_wp2_with fail
    refine (refPages05_any _ _).mono ?_; rintro e w3 ⟨rfl, hb3⟩
    go_wp2_with fail
    refine (hR2.out _).mono ?_; rintro e w' ⟨rfl, hw⟩; obtain rfl := hw.symm
    clear hw
    go_wp2_with fail
    go_ret
    exact ⟨rfl, below_s (below_s hb1 hb2) hb3⟩
  | false =>
    have hF := demFits_any q p
    have hR := refMay_any q
    rw [h] at hF hR
    simp only [Bool.false_and] at hF
    replace hF := Lib.hid hF
    replace hR := Lib.hid hR
    have hd := dem_out h
    have hR2 := runs_any q
    rw [runs_out h] at hR2
    replace hR2 := Lib.hid hR2
    clear hd
    replace h := Lib.hid h
    go_enter Try.func3, Try.ntmps3
    go_wp2_with fail
    refine (demOf_no _ _ h.out).mono ?_; rintro e w' ⟨rfl, hw⟩; obtain rfl := hw.symm
    clear hw
    go_wp2_with fail
    refine (hR.out _).mono ?_; rintro e w' ⟨rfl, hw⟩; obtain rfl := hw.symm
    clear hw
    go_wp2_with fail
    refine (awake_any _).mono ?_; rintro e w' ⟨rfl, hw⟩; obtain rfl := hw.symm
    clear hw
    go_wp2_with fail
    refine (by_any _ _ _).mono ?_; rintro e w' ⟨rfl, hw⟩; obtain rfl := hw.symm
    clear hw
    go_wp2_with fail
    refine (refBy_any _ _ _).mono ?_; rintro e w1 ⟨rfl, hb1⟩
    go_wp2_with fail
    refine (hF.out _).mono ?_; rintro e w' ⟨rfl, hw⟩; obtain rfl := hw.symm
    clear hw
    go_wp2_with fail
    refine (hR2.out _).mono ?_; rintro e w' ⟨rfl, hw⟩; obtain rfl := hw.symm
    clear hw
    go_wp2_with fail
    go_ret
    exact ⟨rfl, hb1⟩

theorem demandRises_walk (a b : Int) (w : World) :
    Calls Try.prog 7 #[.int .i64 a, .int .i64 b] w fun e w' => e = .returned (.bool true) ∧ Below w.heap.size w w' := by
  by_cases hab : b < a
  · have hle : ¬ a < b := by omega
    cases hm : mayB a with
    | true =>
      replace hm := Lib.hid hm
      cases hn : mayB b with
      | true =>
        replace hn := Lib.hid hn
        have ka := Lib.hid (dem_ok hn.out)
        have kb := Lib.hid (dem_ok hm.out)
        have hd := Lib.hid (dem_mono hn.out hm.out (show b ≤ a by omega))
        go_enter Try.func7, Try.ntmps7
        go_wp2_with fail
        refine (demOf_yes b _ hn.out).mono ?_; rintro e w' ⟨rfl, hw⟩; obtain rfl := hw.symm
        clear hw
        go_wp2_with fail
        refine (demOf_yes a _ hm.out).mono ?_; rintro e w' ⟨rfl, hw⟩; obtain rfl := hw.symm
        clear hw
        go_wp2_with fail
        refine (awake_any _).mono ?_; rintro e w' ⟨rfl, hw⟩; obtain rfl := hw.symm
        clear hw
        go_wp2_with fail
        refine (fits_yes _ _ _ _ _ ka.out kb.out ⟨by omega, hd.out⟩).mono ?_; rintro e w' ⟨rfl, hw⟩; obtain rfl := hw.symm
        clear hw
        go_wp2_with fail
        go_ret
        exact ⟨rfl, Below.refl _ _⟩
      | false =>
        replace hn := Lib.hid hn
        go_enter Try.func7, Try.ntmps7
        go_wp2_with fail
        refine (demOf_no b _ hn.out).mono ?_; rintro e w' ⟨rfl, hw⟩; obtain rfl := hw.symm
        clear hw
        go_wp2_with fail
        refine (demOf_yes a _ hm.out).mono ?_; rintro e w' ⟨rfl, hw⟩; obtain rfl := hw.symm
        clear hw
        go_wp2_with fail
        refine (awake_any _).mono ?_; rintro e w' ⟨rfl, hw⟩; obtain rfl := hw.symm
        clear hw
        go_wp2_with fail
        go_ret
        exact ⟨rfl, Below.refl _ _⟩
    | false =>
      replace hm := Lib.hid hm
      cases hn : mayB b with
      | true =>
        replace hn := Lib.hid hn
        go_enter Try.func7, Try.ntmps7
        go_wp2_with fail
        refine (demOf_yes b _ hn.out).mono ?_; rintro e w' ⟨rfl, hw⟩; obtain rfl := hw.symm
        clear hw
        go_wp2_with fail
        refine (demOf_no a _ hm.out).mono ?_; rintro e w' ⟨rfl, hw⟩; obtain rfl := hw.symm
        clear hw
        go_wp2_with fail
        refine (awake_any _).mono ?_; rintro e w' ⟨rfl, hw⟩; obtain rfl := hw.symm
        clear hw
        go_wp2_with fail
        go_ret
        exact ⟨rfl, Below.refl _ _⟩
      | false =>
        replace hn := Lib.hid hn
        go_enter Try.func7, Try.ntmps7
        go_wp2_with fail
        refine (demOf_no b _ hn.out).mono ?_; rintro e w' ⟨rfl, hw⟩; obtain rfl := hw.symm
        clear hw
        go_wp2_with fail
        refine (demOf_no a _ hm.out).mono ?_; rintro e w' ⟨rfl, hw⟩; obtain rfl := hw.symm
        clear hw
        go_wp2_with fail
        refine (awake_any _).mono ?_; rintro e w' ⟨rfl, hw⟩; obtain rfl := hw.symm
        clear hw
        go_wp2_with fail
        go_ret
        exact ⟨rfl, Below.refl _ _⟩
  · by_cases hle : a < b
    · cases hm : mayB a with
      | true =>
        replace hm := Lib.hid hm
        cases hn : mayB b with
        | true =>
          replace hn := Lib.hid hn
          have ka := Lib.hid (dem_ok hm.out)
          have kb := Lib.hid (dem_ok hn.out)
          have hd := Lib.hid (dem_mono hm.out hn.out (show a ≤ b by omega))
          go_enter Try.func7, Try.ntmps7
          go_wp2_with fail
          refine (demOf_yes a _ hm.out).mono ?_; rintro e w' ⟨rfl, hw⟩; obtain rfl := hw.symm
          clear hw
          go_wp2_with fail
          refine (demOf_yes b _ hn.out).mono ?_; rintro e w' ⟨rfl, hw⟩; obtain rfl := hw.symm
          clear hw
          go_wp2_with fail
          refine (awake_any _).mono ?_; rintro e w' ⟨rfl, hw⟩; obtain rfl := hw.symm
          clear hw
          go_wp2_with fail
          refine (fits_yes _ _ _ _ _ ka.out kb.out ⟨by omega, hd.out⟩).mono ?_; rintro e w' ⟨rfl, hw⟩; obtain rfl := hw.symm
          clear hw
          go_wp2_with fail
          go_ret
          exact ⟨rfl, Below.refl _ _⟩
        | false =>
          replace hn := Lib.hid hn
          go_enter Try.func7, Try.ntmps7
          go_wp2_with fail
          refine (demOf_yes a _ hm.out).mono ?_; rintro e w' ⟨rfl, hw⟩; obtain rfl := hw.symm
          clear hw
          go_wp2_with fail
          refine (demOf_no b _ hn.out).mono ?_; rintro e w' ⟨rfl, hw⟩; obtain rfl := hw.symm
          clear hw
          go_wp2_with fail
          refine (awake_any _).mono ?_; rintro e w' ⟨rfl, hw⟩; obtain rfl := hw.symm
          clear hw
          go_wp2_with fail
          go_ret
          exact ⟨rfl, Below.refl _ _⟩
      | false =>
        replace hm := Lib.hid hm
        cases hn : mayB b with
        | true =>
          replace hn := Lib.hid hn
          go_enter Try.func7, Try.ntmps7
          go_wp2_with fail
          refine (demOf_no a _ hm.out).mono ?_; rintro e w' ⟨rfl, hw⟩; obtain rfl := hw.symm
          clear hw
          go_wp2_with fail
          refine (demOf_yes b _ hn.out).mono ?_; rintro e w' ⟨rfl, hw⟩; obtain rfl := hw.symm
          clear hw
          go_wp2_with fail
          refine (awake_any _).mono ?_; rintro e w' ⟨rfl, hw⟩; obtain rfl := hw.symm
          clear hw
          go_wp2_with fail
          go_ret
          exact ⟨rfl, Below.refl _ _⟩
        | false =>
          replace hn := Lib.hid hn
          go_enter Try.func7, Try.ntmps7
          go_wp2_with fail
          refine (demOf_no a _ hm.out).mono ?_; rintro e w' ⟨rfl, hw⟩; obtain rfl := hw.symm
          clear hw
          go_wp2_with fail
          refine (demOf_no b _ hn.out).mono ?_; rintro e w' ⟨rfl, hw⟩; obtain rfl := hw.symm
          clear hw
          go_wp2_with fail
          refine (awake_any _).mono ?_; rintro e w' ⟨rfl, hw⟩; obtain rfl := hw.symm
          clear hw
          go_wp2_with fail
          go_ret
          exact ⟨rfl, Below.refl _ _⟩
    · obtain rfl : a = b := by omega
      cases hm : mayB a with
      | true =>
        replace hm := Lib.hid hm
        have ka := Lib.hid (dem_ok hm.out)
        go_enter Try.func7, Try.ntmps7
        go_wp2_with fail
        refine (demOf_yes _ _ hm.out).mono ?_; rintro e w' ⟨rfl, hw⟩; obtain rfl := hw.symm
        clear hw
        go_wp2_with fail
        refine (demOf_yes _ _ hm.out).mono ?_; rintro e w' ⟨rfl, hw⟩; obtain rfl := hw.symm
        clear hw
        go_wp2_with fail
        refine (awake_any _).mono ?_; rintro e w' ⟨rfl, hw⟩; obtain rfl := hw.symm
        clear hw
        go_wp2_with fail
        refine (fits_yes _ _ _ _ _ ka.out ka.out ⟨by omega, by omega⟩).mono ?_; rintro e w' ⟨rfl, hw⟩; obtain rfl := hw.symm
        clear hw
        go_wp2_with fail
        go_ret
        exact ⟨rfl, Below.refl _ _⟩
      | false =>
        replace hm := Lib.hid hm
        go_enter Try.func7, Try.ntmps7
        go_wp2_with fail
        refine (demOf_no _ _ hm.out).mono ?_; rintro e w' ⟨rfl, hw⟩; obtain rfl := hw.symm
        clear hw
        go_wp2_with fail
        refine (demOf_no _ _ hm.out).mono ?_; rintro e w' ⟨rfl, hw⟩; obtain rfl := hw.symm
        clear hw
        go_wp2_with fail
        refine (awake_any _).mono ?_; rintro e w' ⟨rfl, hw⟩; obtain rfl := hw.symm
        clear hw
        go_wp2_with fail
        go_ret
        exact ⟨rfl, Below.refl _ _⟩

theorem parts_bounds {c q : Int} (h0 : 0 ≤ c) (h1 : c ≤ 7) (h : mayB q = true) :
    0 ≤ byT c q * perT c ∧ byT c q * perT c ≤ 131072 ∧ 0 ≤ byT c q * perT c * unitT c ∧ byT c q * perT c * unitT c ≤ 2097152 ∧ 0 ≤ q / unitT c * unitT c ∧ q / unitT c * unitT c ≤ 65536 ∧ q / unitT c * unitT c ≤ byT c q * perT c * unitT c ∧ 0 ≤ q / unitT c ∧ q / unitT c ≤ 65536 := by
  obtain ⟨b0, b1, b2, b3, b4, b5⟩ := by_ceil h0 h1 h
  obtain ⟨a, b⟩ := may_iff.1 h
  have u2 : 16 ≤ unitT c := by have := per_unit h0 h1; omega
  obtain ⟨p0, p1⟩ := per_pos h0 h1
  have m1 : byT c q * perT c ≤ 4096 * 32 := Int.mul_le_mul b1 p1 (by omega) (by omega)
  have m0 : 0 ≤ byT c q * perT c := Int.mul_nonneg b0 (by omega)
  have d0 : 0 ≤ q / unitT c := Int.ediv_nonneg (by omega) (by omega)
  have d1 : q / unitT c ≤ 65536 := Int.le_trans (Int.ediv_le_self _ (by omega)) b
  have e0 : q / unitT c * unitT c ≤ q := Int.ediv_mul_le _ (by omega)
  exact ⟨m0, m1, Int.mul_nonneg m0 (by omega), b5, Int.mul_nonneg d0 (by omega), by omega, Int.mul_le_mul_of_nonneg_right b2 (by omega), d0, d1⟩

set_option maxHeartbeats 1000000 in
theorem demandParts_walk (q : Int) (w : World) :
    Calls Try.prog 5 #[.int .i64 q] w fun e w' => e = .returned (.bool true) ∧ Below w.heap.size w w' := by
  cases h : mayB q with
  | false =>
    have h1 := by_any 0 q
    have h2 := runs_any q
    rw [by_zero (.inr h)] at h1
    rw [runs_out h] at h2
    replace h1 := Lib.hid h1
    replace h2 := Lib.hid h2
    replace h := Lib.hid h
    go_enter Try.func5, Try.ntmps5
    go_wp2_with fail
    refine (demOf_no _ _ h.out).mono ?_; rintro e w' ⟨rfl, hw⟩; obtain rfl := hw.symm
    clear hw
    go_wp2_with fail
    refine (awake_any _).mono ?_; rintro e w' ⟨rfl, hw⟩; obtain rfl := hw.symm
    clear hw
    go_wp2_with fail
    refine (awake_any _).mono ?_; rintro e w' ⟨rfl, hw⟩; obtain rfl := hw.symm
    clear hw
    go_wp2_with fail
    refine (h1.out _).mono ?_; rintro e w' ⟨rfl, hw⟩; obtain rfl := hw.symm
    clear hw
    go_wp2_with fail
    refine (h2.out _).mono ?_; rintro e w' ⟨rfl, hw⟩; obtain rfl := hw.symm
    clear hw
    go_wp2_with fail
    go_ret
    exact ⟨rfl, Below.refl _ _⟩
  | true =>
    have h8 := by_any 8 q
    have h9 := by_any (-1) q
    rw [by_zero (.inl (per_out (by omega)))] at h8 h9
    replace h8 := Lib.hid h8
    replace h9 := Lib.hid h9
    have k := Lib.hid (dem_ok h)
    have hd := Lib.hid (show demT q = sumBy q 8 + runsT q from rfl)
    obtain ⟨r0, r1⟩ := runs_bound q
    obtain ⟨m0, m1⟩ := may_iff.1 h
    replace h := Lib.hid h
    go_enter Try.func5, Try.ntmps5
    go_wp2_with fail
    refine (demOf_yes _ _ h.out).mono ?_; rintro e w' ⟨rfl, hw⟩; obtain rfl := hw.symm
    clear hw
    go_wp2_with fail
    refine (awake_any _).mono ?_; rintro e w' ⟨rfl, hw⟩; obtain rfl := hw.symm
    clear hw
    go_wp2_with fail
    refine (runs_any _ _).mono ?_; rintro e w' ⟨rfl, hw⟩; obtain rfl := hw.symm
    clear hw
    go_wp2_with fail
    go_loopw [5, 32] (fun x i wr => ∃ j : Nat, j ≤ 8 ∧ i = .int .i64 j ∧ x = .int .i64 (sumBy q j + runsT q) ∧ Below w.heap.size w wr) (fun _ i _ => 8 - (intOf i).toNat)
    case atStart => exact ⟨0, by omega, rfl, by rw [show sumBy q 0 = 0 from rfl, Int.zero_add], Below.refl _ _⟩
    case round =>
      obtain ⟨j, hj, rfl, rfl, hb⟩ := hrel
      obtain ⟨s0, s1⟩ := sumBy_bound q j hj
      by_cases hlt : j < 8
      · have c0 : (0 : Int) ≤ j := by omega
        have c1 : (j : Int) ≤ 7 := by omega
        obtain ⟨y0, y1⟩ := by_bound j q
        obtain ⟨p0, p1, p2, p3, p4, p5, p6, p7, p8⟩ := parts_bounds c0 c1 h.out
        have p9 := by_le_dem (q := q) c0 c1
        have u2 : 16 ≤ unitT j := by have := per_unit c0 c1; omega
        have e1 : decide (byT j q < 0) = false := decide_eq_false (by omega)
        have e2 : decide (demT q < byT j q) = false := decide_eq_false (by omega)
        have e3 : decide (byT j q * perT j * unitT j < q / unitT j * unitT j) = false := decide_eq_false (by omega)
        go_wp2_with fail
        refine (by_any _ _ _).mono ?_; rintro e w' ⟨rfl, hw⟩; obtain rfl := hw.symm
        clear hw
        go_wp2_with fail
        have f1 := IntWalk.i64_in (byT j q * perT j) (by omega)
        have f2 := IntWalk.i64_in (byT j q * perT j * unitT j) (by omega)
        have f3 := IntWalk.i64_in (q / unitT j * unitT j) (by omega)
        have f4 : ¬ unitT j = 0 := by omega
        have f5 := IntWalk.i64_quo q (unitT j) ⟨by omega, by omega, by omega⟩
        go_region_held3 (fun W => Below w.heap.size w W) ((first | with_reducible assumption | with_reducible exact below_s (by with_reducible assumption) hb2 | with_reducible exact below_s (by with_reducible exact Below.drew (by with_reducible assumption)) hb2 | with_reducible exact Below.drew (by with_reducible assumption))) (first | (go_at_call 17; refine (pages_F _ _ _ k.out).mono ?_; rintro e w' ⟨rfl, hw⟩; obtain rfl := hw.symm; clear hw) | (go_at_call 22; refine (refPer_any _ _).mono ?_; rintro e w2 ⟨rfl, hb2⟩) | (go_at_call 24; refine (refUnit_any _ _).mono ?_; rintro e w2 ⟨rfl, hb2⟩))
        clear f1 f2 f3 f4 f5
        go_wp2_with fail
        go_roundw
        case rel => exact ⟨j + 1, by omega, by go_num, by congr 1; show _ = sumBy q j + byT j q + runsT q; omega, by assumption⟩
        case measure => simp [intOf]; omega
      · obtain rfl : j = 8 := by omega
        have e4 : (sumBy q 8 + runsT q == demT q) = true := beq_iff_eq.2 rfl
        go_wp2_with fail
        refine (pages_F _ _ _ k.out).mono ?_; rintro e w' ⟨rfl, hw⟩; obtain rfl := hw.symm
        clear hw
        go_wp2_with fail
        refine (h8.out _).mono ?_; rintro e w' ⟨rfl, hw⟩; obtain rfl := hw.symm
        clear hw
        go_wp2_with fail
        refine (h9.out _).mono ?_; rintro e w' ⟨rfl, hw⟩; obtain rfl := hw.symm
        clear hw
        go_wp2_with fail
        go_ret
        exact ⟨rfl, hb⟩

end Go.Proofs.Ytjjdnmlfhankjaa
