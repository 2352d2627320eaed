/- The walks of ClassRises, ClassFits, ClassLeast and ClassRuns. -/
import Derived.Test.YtcaffmnoddjoiaaAwk03
namespace Go.Proofs.Ytcaffmnoddjoiaa
open Go.RowKit

theorem unit_mono {c d : Int} (h0 : 0 ≤ c) (h : c ≤ d) (h1 : d ≤ 23) : unitT c ≤ unitT d := by
  by_cases c7 : c ≤ 7
  · rw [unit_small h0 c7]
    have a := small_cases h0 c7
    by_cases d7 : d ≤ 7
    · rw [unit_small (by omega) d7]
      have b := small_cases (c := d) (by omega) d7
      omega
    · rw [unit_run (by omega) h1]; omega
  · rw [unit_run (by omega) (by omega), unit_run (by omega) h1]; omega

theorem kind_mono {a b : Int} (h0 : 1 ≤ a) (h : a ≤ b) (h1 : b ≤ 8192) : kindT a ≤ kindT b ∧ chargeT a ≤ chargeT b := by
  obtain ⟨a0, a1, a2, a3⟩ := unit_kind h0 (by omega : a ≤ 8192)
  obtain ⟨b0, b1, b2, b3⟩ := unit_kind (by omega : 1 ≤ b) h1
  have hk : kindT a ≤ kindT b := by
    rcases Int.lt_or_le (kindT b) (kindT a) with g | g
    · have := a3 _ b0 g; omega
    · exact g
  exact ⟨hk, unit_mono a0 hk b1⟩

/-- What is charged costs what it is charged, too. -/
theorem charge_again {n : Int} (h0 : 1 ≤ n) (h1 : n ≤ 8192) : chargeT (chargeT n) = chargeT n ∧ n ≤ chargeT n ∧ 1 ≤ chargeT n ∧ chargeT n ≤ 8192 ∧ (chargeT n < 2 * n ∨ chargeT n = 16) := by
  obtain ⟨a0, a1, a2, a3⟩ := unit_kind h0 h1
  have hb := unit_bound (kindT n)
  have hu : n ≤ unitT (kindT n) := a2
  obtain ⟨b0, b1, b2, b3⟩ := unit_kind (n := unitT (kindT n)) (by omega) hb.2
  have e : kindT (unitT (kindT n)) = kindT n := by
    rcases Int.lt_trichotomy (kindT (unitT (kindT n))) (kindT n) with g | g | g
    · have := a3 _ b0 g; omega
    · exact g
    · have := b3 _ a0 g; omega
  refine ⟨by unfold chargeT; rw [e], hu, by unfold chargeT; omega, hb.2, ?_⟩
  unfold chargeT
  by_cases z : kindT n = 0
  · right; rw [z]; decide
  · left
    have := a3 (kindT n - 1) (by omega) (by omega)
    by_cases c7 : kindT n ≤ 7
    · rw [unit_small a0 c7]
      rw [unit_small (by omega) (by omega)] at this
      have p := small_cases a0 c7
      have q := small_cases (c := kindT n - 1) (by omega) (by omega)
      omega
    · rw [unit_run (by omega) a1]
      by_cases c8 : kindT n = 8
      · rw [c8, unit_small (by omega) (by omega)] at this
        have q := small_cases (c := 8 - 1) (by omega) (by omega)
        omega
      · rw [unit_run (by omega) (by omega)] at this
        omega

/-- A kind's alignment, against its bytes. -/
theorem align_dec : ∀ c ∈ List.range 24, 8 ≤ alignT c ∧ unitT c % alignT c = 0 ∧ (c ≤ 7 → perT c * unitT c ≤ 512 ∧ 512 < (perT c + 1) * unitT c ∧ 1 ≤ perT c) := by decide +kernel
theorem align_of {c : Int} (h0 : 0 ≤ c) (h : c ≤ 23) : 8 ≤ alignT c ∧ unitT c % alignT c = 0 ∧ (c ≤ 7 → perT c * unitT c ≤ 512 ∧ 512 < (perT c + 1) * unitT c ∧ 1 ≤ perT c) := by
  obtain ⟨k, rfl⟩ := Int.eq_ofNat_of_zero_le h0
  have := align_dec k (List.mem_range.2 (by omega))
  exact ⟨this.1, this.2.1, fun q => this.2.2 (by omega)⟩

theorem lit0_dec : chargeT 16 = 16 ∧ alignT 0 = 16 ∧ perT 0 = 32 := by refine ⟨?_, ?_, ?_⟩ <;> rfl

theorem lit1_dec : chargeT 32 = 32 ∧ alignT 1 = 32 ∧ perT 1 = 16 := by refine ⟨?_, ?_, ?_⟩ <;> rfl

theorem lit2_dec : chargeT 48 = 48 ∧ alignT 2 = 16 ∧ perT 2 = 10 := by refine ⟨?_, ?_, ?_⟩ <;> rfl

theorem lit3_dec : chargeT 64 = 64 ∧ alignT 3 = 64 ∧ perT 3 = 8 := by refine ⟨?_, ?_, ?_⟩ <;> rfl

theorem lit4_dec : chargeT 96 = 96 ∧ alignT 4 = 32 ∧ perT 4 = 5 := by refine ⟨?_, ?_, ?_⟩ <;> rfl

theorem lit5_dec : chargeT 128 = 128 ∧ alignT 5 = 128 ∧ perT 5 = 4 := by refine ⟨?_, ?_, ?_⟩ <;> rfl

theorem lit6_dec : chargeT 192 = 192 ∧ alignT 6 = 64 ∧ perT 6 = 2 := by refine ⟨?_, ?_, ?_⟩ <;> rfl

theorem lit7_dec : chargeT 256 = 256 ∧ alignT 7 = 256 ∧ perT 7 = 2 := by refine ⟨?_, ?_, ?_⟩ <;> rfl

attribute [local irreducible] smallT unitT kindT perT pagesT alignT chargeT

set_option maxRecDepth 100000 in
set_option maxHeartbeats 400000 in
theorem rises_in (a b lo hi : Int) (w : World) (h : (a ≤ b ∧ lo = a ∧ hi = b) ∨ (b < a ∧ lo = b ∧ hi = a)) (h0 : 1 ≤ lo) (h1 : hi ≤ 8192) (hk : kindT lo ≤ kindT hi) (hc : chargeT lo ≤ chargeT hi) :
    Calls Try.prog 5 #[.int .i64 a, .int .i64 b] w fun e w' => e = .returned (.bool true) ∧ w' = w := by
  rcases h with ⟨h, rfl, rfl⟩ | ⟨h, rfl, rfl⟩
  · have g1 : ¬ hi < lo := by omega
    by_cases he : lo < hi
    all_goals
      go_enter Try.func5, Try.ntmps5
      go_wp2_with (first | (go_at_call 9; refine (awake_any _).mono ?_; rintro e w' ⟨rfl, hw⟩; obtain rfl := hw.symm) | (go_at_call 10; refine (kindOf_any _ _).mono ?_; rintro e w' ⟨rfl, hw⟩; obtain rfl := hw.symm) | (go_at_call 12; refine (charge_any _ _).mono ?_; rintro e w' ⟨rfl, hw⟩; obtain rfl := hw.symm))
      go_ret
      exact ⟨by first | rfl | (simp; omega), rfl⟩
  · have g1 : ¬ hi < lo := by omega
    go_enter Try.func5, Try.ntmps5
    go_wp2_with (first | (go_at_call 9; refine (awake_any _).mono ?_; rintro e w' ⟨rfl, hw⟩; obtain rfl := hw.symm) | (go_at_call 10; refine (kindOf_any _ _).mono ?_; rintro e w' ⟨rfl, hw⟩; obtain rfl := hw.symm) | (go_at_call 12; refine (charge_any _ _).mono ?_; rintro e w' ⟨rfl, hw⟩; obtain rfl := hw.symm))
    go_ret
    exact ⟨by first | rfl | (simp; omega), rfl⟩

set_option maxRecDepth 100000 in
set_option maxHeartbeats 400000 in
theorem rises_out (a b : Int) (w : World) (h : (a < 1 ∨ b < 1) ∨ (8192 < a ∨ 8192 < b)) :
    Calls Try.prog 5 #[.int .i64 a, .int .i64 b] w fun e w' => e = .returned (.bool true) ∧ w' = w := by
  go_enter Try.func5, Try.ntmps5
  go_wp2_with (go_at_call 9; refine (awake_any _).mono ?_; rintro e w' ⟨rfl, hw⟩; obtain rfl := hw.symm)
  all_goals
    go_ret
    exact ⟨rfl, rfl⟩

theorem classRises_walk (a b : Int) (w : World) :
    Calls Try.prog 5 #[.int .i64 a, .int .i64 b] w fun e w' => e = .returned (.bool true) ∧ w' = w := by
  by_cases h : (a < 1 ∨ b < 1) ∨ (8192 < a ∨ 8192 < b)
  · exact rises_out a b w h
  · by_cases g : a ≤ b
    · have := kind_mono (a := a) (b := b) (by omega) g (by omega)
      exact rises_in a b a b w (Or.inl ⟨g, rfl, rfl⟩) (by omega) (by omega) this.1 this.2
    · have := kind_mono (a := b) (b := a) (by omega) (by omega) (by omega)
      exact rises_in a b b a w (Or.inr ⟨by omega, rfl, rfl⟩) (by omega) (by omega) this.1 this.2

theorem uwrap_nonneg (n : Int) : 0 ≤ IntKind.u64.wrap n := by
  have : IntKind.u64.wrap n = n % 18446744073709551616 := by
    unfold IntKind.wrap
    simp [show IntKind.u64.bits = 64 from rfl, show IntKind.u64.signed = false from rfl]
  rw [this]
  exact Int.emod_nonneg _ (by decide)

theorem umod (n m : Int) (hm : 0 < m) (h9 : m ≤ 1000) : ∃ j : Nat, wrap64 ((IntKind.u64.wrap n).tmod m) = j ∧ (j : Int) < m := by
  have h0 := uwrap_nonneg n
  have h1 : 0 ≤ (IntKind.u64.wrap n).tmod m := Int.tmod_nonneg _ h0
  have h2 : (IntKind.u64.wrap n).tmod m < m := Int.tmod_lt_of_pos _ hm
  refine ⟨((IntKind.u64.wrap n).tmod m).toNat, ?_, by omega⟩
  generalize (IntKind.u64.wrap n).tmod m = x at *
  unfold wrap64
  omega

set_option maxRecDepth 100000 in
set_option maxHeartbeats 400000 in
theorem fits_out (n k : Int) (w : World) (h : n < 1 ∨ 8192 < n) (hc : chargeT n = 0) :
    Calls Try.prog 6 #[.int .i64 n, .int .i64 k] w fun e w' => e = .returned (.bool true) ∧ w' = w := by
  rcases h with h | h
  · go_enter Try.func6, Try.ntmps6
    go_wp2_with (first | (go_at_call 9; refine (awake_any _).mono ?_; rintro e w' ⟨rfl, hw⟩; obtain rfl := hw.symm) | (go_at_call 12; refine (charge_any _ _).mono ?_; rintro e w' ⟨rfl, hw⟩; obtain rfl := hw.symm))
    go_ret
    exact ⟨rfl, rfl⟩
  · have h0 : 1 ≤ n := by omega
    go_enter Try.func6, Try.ntmps6
    go_wp2_with (first | (go_at_call 9; refine (awake_any _).mono ?_; rintro e w' ⟨rfl, hw⟩; obtain rfl := hw.symm) | (go_at_call 12; refine (charge_any _ _).mono ?_; rintro e w' ⟨rfl, hw⟩; obtain rfl := hw.symm))
    go_ret
    exact ⟨rfl, rfl⟩

set_option maxRecDepth 100000 in
set_option maxHeartbeats 400000 in
theorem fits_run (n k : Int) (w : World) (h0 : 256 < n) (h1 : n ≤ 8192) :
    Calls Try.prog 6 #[.int .i64 n, .int .i64 k] w fun e w' => e = .returned (.bool true) ∧ w' = w := by
  obtain ⟨a0, a1, a2, a3⟩ := unit_kind (n := n) (by omega) h1
  have hk := kind_run h0 h1
  have k8 : 8 ≤ kindT n := by omega
  obtain ⟨c1, c2, c3, c4, c5⟩ := charge_again (n := n) (by omega) h1
  have hx : chargeT n = (kindT n - 7) * 512 := by rw [show chargeT n = unitT (kindT n) by unfold chargeT; rfl, unit_run k8 a1]
  have hp := pages_run k8 a1
  have hr := per_out (c := kindT n) (Or.inr (by omega))
  have hal := align_run k8 a1
  have hm : ((kindT n - 7) * 512 % 512 == 0) = true := by simp
  have e1 : chargeT ((kindT n - 7) * 512) = (kindT n - 7) * 512 := by rw [← hx, c1]
  have g1 : n ≤ (kindT n - 7) * 512 := by omega
  have g2 : decide (2 * n ≤ (kindT n - 7) * 512) = false := decide_eq_false (by omega)
  have g3 : n < 9000 := by omega
  clear hk a2 a3 c1 c2 c3 c4 c5
  go_enter Try.func6, Try.ntmps6
  go_wp2_with (first | (go_at_call 9; refine (awake_any _).mono ?_; rintro e w' ⟨rfl, hw⟩; obtain rfl := hw.symm) | (go_at_call 10; refine (kindOf_any _ _).mono ?_; rintro e w' ⟨rfl, hw⟩; obtain rfl := hw.symm) | (go_at_call 12; refine (charge_any _ _).mono ?_; rintro e w' ⟨rfl, hw⟩; obtain rfl := hw.symm) | (go_at_call 20; refine (align_any _ _).mono ?_; rintro e w' ⟨rfl, hw⟩; obtain rfl := hw.symm) | (go_at_call 16; refine (per_any _ _).mono ?_; rintro e w' ⟨rfl, hw⟩; obtain rfl := hw.symm) | (go_at_call 18; refine (pages_any _ _).mono ?_; rintro e w' ⟨rfl, hw⟩; obtain rfl := hw.symm))
  go_ret
  exact ⟨rfl, rfl⟩

set_option maxRecDepth 100000 in
set_option maxHeartbeats 400000 in
theorem least_out (n c : Int) (w : World) (h : n < 1 ∨ 8192 < n) :
    Calls Try.prog 7 #[.int .i64 n, .int .i64 c] w fun e w' => e = .returned (.bool true) ∧ w' = w := by
  have hk := kind_out h
  rcases h with h | h
  · go_enter Try.func7, Try.ntmps7
    go_wp2_with (first | (go_at_call 9; refine (awake_any _).mono ?_; rintro e w' ⟨rfl, hw⟩; obtain rfl := hw.symm) | (go_at_call 10; refine (kindOf_any _ _).mono ?_; rintro e w' ⟨rfl, hw⟩; obtain rfl := hw.symm) | (go_at_call 14; refine (unit_any _ _).mono ?_; rintro e w' ⟨rfl, hw⟩; obtain rfl := hw.symm))
    go_ret
    exact ⟨rfl, rfl⟩
  · have h0 : 1 ≤ n := by omega
    have d1 : decide (n < 1) = false := decide_eq_false (by omega)
    go_enter Try.func7, Try.ntmps7
    go_wp2_with (first | (go_at_call 9; refine (awake_any _).mono ?_; rintro e w' ⟨rfl, hw⟩; obtain rfl := hw.symm) | (go_at_call 10; refine (kindOf_any _ _).mono ?_; rintro e w' ⟨rfl, hw⟩; obtain rfl := hw.symm) | (go_at_call 14; refine (unit_any _ _).mono ?_; rintro e w' ⟨rfl, hw⟩; obtain rfl := hw.symm))
    go_ret
    exact ⟨rfl, rfl⟩

set_option maxRecDepth 100000 in
set_option maxHeartbeats 400000 in
theorem least_in (n c : Int) (w : World) (h0 : 1 ≤ n) (h1 : n ≤ 8192) :
    Calls Try.prog 7 #[.int .i64 n, .int .i64 c] w fun e w' => e = .returned (.bool true) ∧ w' = w := by
  obtain ⟨a0, a1, a2, a3⟩ := unit_kind h0 h1
  obtain ⟨j, hj, hlt⟩ := umod c 24 (by omega) (by omega)
  have ha := a3 j (by omega)
  replace ha := Lib.hid ha
  clear a3
  by_cases hkj : kindT n ≤ j
  · have d1 : decide (kindT n ≤ (j : Int)) = true := decide_eq_true hkj
    go_enter Try.func7, Try.ntmps7
    go_wp2_with (first | (go_at_call 9; refine (awake_any _).mono ?_; rintro e w' ⟨rfl, hw⟩; obtain rfl := hw.symm) | (go_at_call 10; refine (kindOf_any _ _).mono ?_; rintro e w' ⟨rfl, hw⟩; obtain rfl := hw.symm) | (go_at_call 14; refine (unit_any _ _).mono ?_; rintro e w' ⟨rfl, hw⟩; obtain rfl := hw.symm))
    go_ret
    exact ⟨rfl, rfl⟩
  · have d1 : decide (kindT n ≤ (j : Int)) = false := decide_eq_false hkj
    have d2 : decide (unitT (j : Int) < n) = true := decide_eq_true (ha.out (by omega))
    go_enter Try.func7, Try.ntmps7
    go_wp2_with (first | (go_at_call 9; refine (awake_any _).mono ?_; rintro e w' ⟨rfl, hw⟩; obtain rfl := hw.symm) | (go_at_call 10; refine (kindOf_any _ _).mono ?_; rintro e w' ⟨rfl, hw⟩; obtain rfl := hw.symm) | (go_at_call 14; refine (unit_any _ _).mono ?_; rintro e w' ⟨rfl, hw⟩; obtain rfl := hw.symm))
    go_ret
    exact ⟨rfl, rfl⟩

theorem classLeast_walk (n c : Int) (w : World) :
    Calls Try.prog 7 #[.int .i64 n, .int .i64 c] w fun e w' => e = .returned (.bool true) ∧ w' = w := by
  by_cases h : n < 1 ∨ 8192 < n
  · exact least_out n c w h
  · exact least_in n c w (by omega) (by omega)

set_option maxRecDepth 100000 in
set_option maxHeartbeats 400000 in
theorem runs_out (n : Int) (w : World) (h : n ≤ 256 ∨ 8192 < n) :
    Calls Try.prog 8 #[.int .i64 n] w fun e w' => e = .returned (.bool true) ∧ w' = w := by
  rcases h with h | h
  · go_enter Try.func8, Try.ntmps8
    go_wp2_with (go_at_call 9; refine (awake_any _).mono ?_; rintro e w' ⟨rfl, hw⟩; obtain rfl := hw.symm)
    go_ret
    exact ⟨rfl, rfl⟩
  · have h0 : 256 < n := by omega
    go_enter Try.func8, Try.ntmps8
    go_wp2_with (go_at_call 9; refine (awake_any _).mono ?_; rintro e w' ⟨rfl, hw⟩; obtain rfl := hw.symm)
    go_ret
    exact ⟨rfl, rfl⟩

set_option maxRecDepth 100000 in
set_option maxHeartbeats 400000 in
theorem runs_in (n : Int) (w : World) (h0 : 256 < n) (h1 : n ≤ 8192) :
    Calls Try.prog 8 #[.int .i64 n] w fun e w' => e = .returned (.bool true) ∧ w' = w := by
  have hk := kind_run h0 h1
  have k8 : 8 ≤ kindT n := by omega
  have a1 : kindT n ≤ 23 := by omega
  have hx : chargeT n = (kindT n - 7) * 512 := by rw [show chargeT n = unitT (kindT n) by unfold chargeT; rfl, unit_run k8 a1]
  have hp := pages_run k8 a1
  have hr := per_out (c := kindT n) (Or.inr (by omega))
  have hal := align_run k8 a1
  have g1 : n ≤ (kindT n - 7) * 512 := by omega
  have g2 : (kindT n - 7 - 1) * 512 < n := by omega
  have g3 : (kindT n == 7 + (kindT n - 7)) = true := by rw [beq_iff_eq]; omega
  clear hk
  go_enter Try.func8, Try.ntmps8
  go_wp2_with (first | (go_at_call 9; refine (awake_any _).mono ?_; rintro e w' ⟨rfl, hw⟩; obtain rfl := hw.symm) | (go_at_call 10; refine (kindOf_any _ _).mono ?_; rintro e w' ⟨rfl, hw⟩; obtain rfl := hw.symm) | (go_at_call 12; refine (charge_any _ _).mono ?_; rintro e w' ⟨rfl, hw⟩; obtain rfl := hw.symm) | (go_at_call 20; refine (align_any _ _).mono ?_; rintro e w' ⟨rfl, hw⟩; obtain rfl := hw.symm) | (go_at_call 16; refine (per_any _ _).mono ?_; rintro e w' ⟨rfl, hw⟩; obtain rfl := hw.symm) | (go_at_call 18; refine (pages_any _ _).mono ?_; rintro e w' ⟨rfl, hw⟩; obtain rfl := hw.symm))
  go_ret
  exact ⟨rfl, rfl⟩

theorem classRuns_walk (n : Int) (w : World) :
    Calls Try.prog 8 #[.int .i64 n] w fun e w' => e = .returned (.bool true) ∧ w' = w := by
  by_cases h : n ≤ 256 ∨ 8192 < n
  · exact runs_out n w h
  · exact runs_in n w (by omega) (by omega)

end Go.Proofs.Ytcaffmnoddjoiaa
