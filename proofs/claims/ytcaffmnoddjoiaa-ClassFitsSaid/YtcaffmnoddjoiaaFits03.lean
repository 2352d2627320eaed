/- The walk of ClassFits: the small kinds. -/
import Derived.Test.YtcaffmnoddjoiaaAwk03
import Derived.Test.YtcaffmnoddjoiaaLaw03
namespace Go.Proofs.Ytcaffmnoddjoiaa
open Go.RowKit

theorem umod2 (n m : Int) (hm : 0 < m) (h9 : m ≤ 1000) : 0 ≤ wrap64 ((IntKind.u64.wrap n).tmod m) ∧ wrap64 ((IntKind.u64.wrap n).tmod m) < m := by
  obtain ⟨j, h, g⟩ := umod n m hm h9
  rw [h]; omega

attribute [local irreducible] smallT unitT kindT perT pagesT alignT chargeT

set_option maxRecDepth 100000 in
set_option maxHeartbeats 400000 in
theorem fits_small0 (n k : Int) (w : World) (h0 : 1 ≤ n) (h1 : n ≤ 16) :
    Calls Try.prog 6 #[.int .i64 n, .int .i64 k] w fun e w' => e = .returned (.bool true) ∧ w' = w := by
  obtain ⟨l1, l2, l3⟩ := lit0_dec
  have hk : kindT n = 0 := kind_eq (by omega) (by omega) (by omega) (by omega) (by have := small_cases (c := 0) (by omega) (by omega); omega) (fun g => by have := small_cases (c := 0 - 1) (by omega) (by omega); omega)
  have hx : chargeT n = 16 := by rw [show chargeT n = unitT (kindT n) by unfold chargeT; rfl, hk, unit_small (by omega) (by omega)]; have := small_cases (c := 0) (by omega) (by omega); omega
  have n1 : 1 ≤ n := by omega
  have n2 : n ≤ 8192 := by omega
  have d1 : decide (16 < n) = false := decide_eq_false (by omega)
  obtain ⟨x0, x1⟩ := umod2 k 32 (by omega) (by omega)
  have e2 : (wrap64 ((IntKind.u64.wrap k).tmod 32) * 16 % 16 == 0) = true := by rw [beq_iff_eq]; omega
  go_enter Try.func6, Try.ntmps6
  go_wp2_with (first | (go_at_call 9; refine (awake_any _).mono ?_; rintro e w' ⟨rfl, hw⟩; obtain rfl := hw.symm) | (go_at_call 10; refine (kindOf_any _ _).mono ?_; rintro e w' ⟨rfl, hw⟩; obtain rfl := hw.symm) | (go_at_call 12; refine (charge_any _ _).mono ?_; rintro e w' ⟨rfl, hw⟩; obtain rfl := hw.symm) | (go_at_call 20; refine (align_any _ _).mono ?_; rintro e w' ⟨rfl, hw⟩; obtain rfl := hw.symm) | (go_at_call 16; refine (per_any _ _).mono ?_; rintro e w' ⟨rfl, hw⟩; obtain rfl := hw.symm) | (go_at_call 18; refine (pages_any _ _).mono ?_; rintro e w' ⟨rfl, hw⟩; obtain rfl := hw.symm))
  all_goals
    go_ret
    exact ⟨by first | rfl | (simp; omega), rfl⟩

set_option maxRecDepth 100000 in
set_option maxHeartbeats 400000 in
theorem fits_small1 (n k : Int) (w : World) (h0 : 17 ≤ n) (h1 : n ≤ 32) :
    Calls Try.prog 6 #[.int .i64 n, .int .i64 k] w fun e w' => e = .returned (.bool true) ∧ w' = w := by
  obtain ⟨l1, l2, l3⟩ := lit1_dec
  have hk : kindT n = 1 := kind_eq (by omega) (by omega) (by omega) (by omega) (by have := small_cases (c := 1) (by omega) (by omega); omega) (fun g => by have := small_cases (c := 1 - 1) (by omega) (by omega); omega)
  have hx : chargeT n = 32 := by rw [show chargeT n = unitT (kindT n) by unfold chargeT; rfl, hk, unit_small (by omega) (by omega)]; have := small_cases (c := 1) (by omega) (by omega); omega
  have n1 : 1 ≤ n := by omega
  have n2 : n ≤ 8192 := by omega
  have d1 : decide (32 < n) = false := decide_eq_false (by omega)
  have g2 : decide (2 * n ≤ 32) = false := decide_eq_false (by omega)
  obtain ⟨x0, x1⟩ := umod2 k 16 (by omega) (by omega)
  have e2 : (wrap64 ((IntKind.u64.wrap k).tmod 16) * 32 % 32 == 0) = true := by rw [beq_iff_eq]; omega
  go_enter Try.func6, Try.ntmps6
  go_wp2_with (first | (go_at_call 9; refine (awake_any _).mono ?_; rintro e w' ⟨rfl, hw⟩; obtain rfl := hw.symm) | (go_at_call 10; refine (kindOf_any _ _).mono ?_; rintro e w' ⟨rfl, hw⟩; obtain rfl := hw.symm) | (go_at_call 12; refine (charge_any _ _).mono ?_; rintro e w' ⟨rfl, hw⟩; obtain rfl := hw.symm) | (go_at_call 20; refine (align_any _ _).mono ?_; rintro e w' ⟨rfl, hw⟩; obtain rfl := hw.symm) | (go_at_call 16; refine (per_any _ _).mono ?_; rintro e w' ⟨rfl, hw⟩; obtain rfl := hw.symm) | (go_at_call 18; refine (pages_any _ _).mono ?_; rintro e w' ⟨rfl, hw⟩; obtain rfl := hw.symm))
  all_goals
    go_ret
    exact ⟨by first | rfl | (simp; omega), rfl⟩

set_option maxRecDepth 100000 in
set_option maxHeartbeats 400000 in
theorem fits_small2 (n k : Int) (w : World) (h0 : 33 ≤ n) (h1 : n ≤ 48) :
    Calls Try.prog 6 #[.int .i64 n, .int .i64 k] w fun e w' => e = .returned (.bool true) ∧ w' = w := by
  obtain ⟨l1, l2, l3⟩ := lit2_dec
  have hk : kindT n = 2 := kind_eq (by omega) (by omega) (by omega) (by omega) (by have := small_cases (c := 2) (by omega) (by omega); omega) (fun g => by have := small_cases (c := 2 - 1) (by omega) (by omega); omega)
  have hx : chargeT n = 48 := by rw [show chargeT n = unitT (kindT n) by unfold chargeT; rfl, hk, unit_small (by omega) (by omega)]; have := small_cases (c := 2) (by omega) (by omega); omega
  have n1 : 1 ≤ n := by omega
  have n2 : n ≤ 8192 := by omega
  have d1 : decide (48 < n) = false := decide_eq_false (by omega)
  have g2 : decide (2 * n ≤ 48) = false := decide_eq_false (by omega)
  obtain ⟨x0, x1⟩ := umod2 k 10 (by omega) (by omega)
  have e2 : (wrap64 ((IntKind.u64.wrap k).tmod 10) * 48 % 16 == 0) = true := by rw [beq_iff_eq]; omega
  go_enter Try.func6, Try.ntmps6
  go_wp2_with (first | (go_at_call 9; refine (awake_any _).mono ?_; rintro e w' ⟨rfl, hw⟩; obtain rfl := hw.symm) | (go_at_call 10; refine (kindOf_any _ _).mono ?_; rintro e w' ⟨rfl, hw⟩; obtain rfl := hw.symm) | (go_at_call 12; refine (charge_any _ _).mono ?_; rintro e w' ⟨rfl, hw⟩; obtain rfl := hw.symm) | (go_at_call 20; refine (align_any _ _).mono ?_; rintro e w' ⟨rfl, hw⟩; obtain rfl := hw.symm) | (go_at_call 16; refine (per_any _ _).mono ?_; rintro e w' ⟨rfl, hw⟩; obtain rfl := hw.symm) | (go_at_call 18; refine (pages_any _ _).mono ?_; rintro e w' ⟨rfl, hw⟩; obtain rfl := hw.symm))
  all_goals
    go_ret
    exact ⟨by first | rfl | (simp; omega), rfl⟩

set_option maxRecDepth 100000 in
set_option maxHeartbeats 400000 in
theorem fits_small3 (n k : Int) (w : World) (h0 : 49 ≤ n) (h1 : n ≤ 64) :
    Calls Try.prog 6 #[.int .i64 n, .int .i64 k] w fun e w' => e = .returned (.bool true) ∧ w' = w := by
  obtain ⟨l1, l2, l3⟩ := lit3_dec
  have hk : kindT n = 3 := kind_eq (by omega) (by omega) (by omega) (by omega) (by have := small_cases (c := 3) (by omega) (by omega); omega) (fun g => by have := small_cases (c := 3 - 1) (by omega) (by omega); omega)
  have hx : chargeT n = 64 := by rw [show chargeT n = unitT (kindT n) by unfold chargeT; rfl, hk, unit_small (by omega) (by omega)]; have := small_cases (c := 3) (by omega) (by omega); omega
  have n1 : 1 ≤ n := by omega
  have n2 : n ≤ 8192 := by omega
  have d1 : decide (64 < n) = false := decide_eq_false (by omega)
  have g2 : decide (2 * n ≤ 64) = false := decide_eq_false (by omega)
  obtain ⟨x0, x1⟩ := umod2 k 8 (by omega) (by omega)
  have e2 : (wrap64 ((IntKind.u64.wrap k).tmod 8) * 64 % 64 == 0) = true := by rw [beq_iff_eq]; omega
  go_enter Try.func6, Try.ntmps6
  go_wp2_with (first | (go_at_call 9; refine (awake_any _).mono ?_; rintro e w' ⟨rfl, hw⟩; obtain rfl := hw.symm) | (go_at_call 10; refine (kindOf_any _ _).mono ?_; rintro e w' ⟨rfl, hw⟩; obtain rfl := hw.symm) | (go_at_call 12; refine (charge_any _ _).mono ?_; rintro e w' ⟨rfl, hw⟩; obtain rfl := hw.symm) | (go_at_call 20; refine (align_any _ _).mono ?_; rintro e w' ⟨rfl, hw⟩; obtain rfl := hw.symm) | (go_at_call 16; refine (per_any _ _).mono ?_; rintro e w' ⟨rfl, hw⟩; obtain rfl := hw.symm) | (go_at_call 18; refine (pages_any _ _).mono ?_; rintro e w' ⟨rfl, hw⟩; obtain rfl := hw.symm))
  all_goals
    go_ret
    exact ⟨by first | rfl | (simp; omega), rfl⟩

set_option maxRecDepth 100000 in
set_option maxHeartbeats 400000 in
theorem fits_small4 (n k : Int) (w : World) (h0 : 65 ≤ n) (h1 : n ≤ 96) :
    Calls Try.prog 6 #[.int .i64 n, .int .i64 k] w fun e w' => e = .returned (.bool true) ∧ w' = w := by
  obtain ⟨l1, l2, l3⟩ := lit4_dec
  have hk : kindT n = 4 := kind_eq (by omega) (by omega) (by omega) (by omega) (by have := small_cases (c := 4) (by omega) (by omega); omega) (fun g => by have := small_cases (c := 4 - 1) (by omega) (by omega); omega)
  have hx : chargeT n = 96 := by rw [show chargeT n = unitT (kindT n) by unfold chargeT; rfl, hk, unit_small (by omega) (by omega)]; have := small_cases (c := 4) (by omega) (by omega); omega
  have n1 : 1 ≤ n := by omega
  have n2 : n ≤ 8192 := by omega
  have d1 : decide (96 < n) = false := decide_eq_false (by omega)
  have g2 : decide (2 * n ≤ 96) = false := decide_eq_false (by omega)
  obtain ⟨x0, x1⟩ := umod2 k 5 (by omega) (by omega)
  have e2 : (wrap64 ((IntKind.u64.wrap k).tmod 5) * 96 % 32 == 0) = true := by rw [beq_iff_eq]; omega
  go_enter Try.func6, Try.ntmps6
  go_wp2_with (first | (go_at_call 9; refine (awake_any _).mono ?_; rintro e w' ⟨rfl, hw⟩; obtain rfl := hw.symm) | (go_at_call 10; refine (kindOf_any _ _).mono ?_; rintro e w' ⟨rfl, hw⟩; obtain rfl := hw.symm) | (go_at_call 12; refine (charge_any _ _).mono ?_; rintro e w' ⟨rfl, hw⟩; obtain rfl := hw.symm) | (go_at_call 20; refine (align_any _ _).mono ?_; rintro e w' ⟨rfl, hw⟩; obtain rfl := hw.symm) | (go_at_call 16; refine (per_any _ _).mono ?_; rintro e w' ⟨rfl, hw⟩; obtain rfl := hw.symm) | (go_at_call 18; refine (pages_any _ _).mono ?_; rintro e w' ⟨rfl, hw⟩; obtain rfl := hw.symm))
  all_goals
    go_ret
    exact ⟨by first | rfl | (simp; omega), rfl⟩

set_option maxRecDepth 100000 in
set_option maxHeartbeats 400000 in
theorem fits_small5 (n k : Int) (w : World) (h0 : 97 ≤ n) (h1 : n ≤ 128) :
    Calls Try.prog 6 #[.int .i64 n, .int .i64 k] w fun e w' => e = .returned (.bool true) ∧ w' = w := by
  obtain ⟨l1, l2, l3⟩ := lit5_dec
  have hk : kindT n = 5 := kind_eq (by omega) (by omega) (by omega) (by omega) (by have := small_cases (c := 5) (by omega) (by omega); omega) (fun g => by have := small_cases (c := 5 - 1) (by omega) (by omega); omega)
  have hx : chargeT n = 128 := by rw [show chargeT n = unitT (kindT n) by unfold chargeT; rfl, hk, unit_small (by omega) (by omega)]; have := small_cases (c := 5) (by omega) (by omega); omega
  have n1 : 1 ≤ n := by omega
  have n2 : n ≤ 8192 := by omega
  have d1 : decide (128 < n) = false := decide_eq_false (by omega)
  have g2 : decide (2 * n ≤ 128) = false := decide_eq_false (by omega)
  obtain ⟨x0, x1⟩ := umod2 k 4 (by omega) (by omega)
  have e2 : (wrap64 ((IntKind.u64.wrap k).tmod 4) * 128 % 128 == 0) = true := by rw [beq_iff_eq]; omega
  go_enter Try.func6, Try.ntmps6
  go_wp2_with (first | (go_at_call 9; refine (awake_any _).mono ?_; rintro e w' ⟨rfl, hw⟩; obtain rfl := hw.symm) | (go_at_call 10; refine (kindOf_any _ _).mono ?_; rintro e w' ⟨rfl, hw⟩; obtain rfl := hw.symm) | (go_at_call 12; refine (charge_any _ _).mono ?_; rintro e w' ⟨rfl, hw⟩; obtain rfl := hw.symm) | (go_at_call 20; refine (align_any _ _).mono ?_; rintro e w' ⟨rfl, hw⟩; obtain rfl := hw.symm) | (go_at_call 16; refine (per_any _ _).mono ?_; rintro e w' ⟨rfl, hw⟩; obtain rfl := hw.symm) | (go_at_call 18; refine (pages_any _ _).mono ?_; rintro e w' ⟨rfl, hw⟩; obtain rfl := hw.symm))
  all_goals
    go_ret
    exact ⟨by first | rfl | (simp; omega), rfl⟩

set_option maxRecDepth 100000 in
set_option maxHeartbeats 400000 in
theorem fits_small6 (n k : Int) (w : World) (h0 : 129 ≤ n) (h1 : n ≤ 192) :
    Calls Try.prog 6 #[.int .i64 n, .int .i64 k] w fun e w' => e = .returned (.bool true) ∧ w' = w := by
  obtain ⟨l1, l2, l3⟩ := lit6_dec
  have hk : kindT n = 6 := kind_eq (by omega) (by omega) (by omega) (by omega) (by have := small_cases (c := 6) (by omega) (by omega); omega) (fun g => by have := small_cases (c := 6 - 1) (by omega) (by omega); omega)
  have hx : chargeT n = 192 := by rw [show chargeT n = unitT (kindT n) by unfold chargeT; rfl, hk, unit_small (by omega) (by omega)]; have := small_cases (c := 6) (by omega) (by omega); omega
  have n1 : 1 ≤ n := by omega
  have n2 : n ≤ 8192 := by omega
  have d1 : decide (192 < n) = false := decide_eq_false (by omega)
  have g2 : decide (2 * n ≤ 192) = false := decide_eq_false (by omega)
  obtain ⟨x0, x1⟩ := umod2 k 2 (by omega) (by omega)
  have e2 : (wrap64 ((IntKind.u64.wrap k).tmod 2) * 192 % 64 == 0) = true := by rw [beq_iff_eq]; omega
  go_enter Try.func6, Try.ntmps6
  go_wp2_with (first | (go_at_call 9; refine (awake_any _).mono ?_; rintro e w' ⟨rfl, hw⟩; obtain rfl := hw.symm) | (go_at_call 10; refine (kindOf_any _ _).mono ?_; rintro e w' ⟨rfl, hw⟩; obtain rfl := hw.symm) | (go_at_call 12; refine (charge_any _ _).mono ?_; rintro e w' ⟨rfl, hw⟩; obtain rfl := hw.symm) | (go_at_call 20; refine (align_any _ _).mono ?_; rintro e w' ⟨rfl, hw⟩; obtain rfl := hw.symm) | (go_at_call 16; refine (per_any _ _).mono ?_; rintro e w' ⟨rfl, hw⟩; obtain rfl := hw.symm) | (go_at_call 18; refine (pages_any _ _).mono ?_; rintro e w' ⟨rfl, hw⟩; obtain rfl := hw.symm))
  all_goals
    go_ret
    exact ⟨by first | rfl | (simp; omega), rfl⟩

set_option maxRecDepth 100000 in
set_option maxHeartbeats 400000 in
theorem fits_small7 (n k : Int) (w : World) (h0 : 193 ≤ n) (h1 : n ≤ 256) :
    Calls Try.prog 6 #[.int .i64 n, .int .i64 k] w fun e w' => e = .returned (.bool true) ∧ w' = w := by
  obtain ⟨l1, l2, l3⟩ := lit7_dec
  have hk : kindT n = 7 := kind_eq (by omega) (by omega) (by omega) (by omega) (by have := small_cases (c := 7) (by omega) (by omega); omega) (fun g => by have := small_cases (c := 7 - 1) (by omega) (by omega); omega)
  have hx : chargeT n = 256 := by rw [show chargeT n = unitT (kindT n) by unfold chargeT; rfl, hk, unit_small (by omega) (by omega)]; have := small_cases (c := 7) (by omega) (by omega); omega
  have n1 : 1 ≤ n := by omega
  have n2 : n ≤ 8192 := by omega
  have d1 : decide (256 < n) = false := decide_eq_false (by omega)
  have g2 : decide (2 * n ≤ 256) = false := decide_eq_false (by omega)
  obtain ⟨x0, x1⟩ := umod2 k 2 (by omega) (by omega)
  have e2 : (wrap64 ((IntKind.u64.wrap k).tmod 2) * 256 % 256 == 0) = true := by rw [beq_iff_eq]; omega
  go_enter Try.func6, Try.ntmps6
  go_wp2_with (first | (go_at_call 9; refine (awake_any _).mono ?_; rintro e w' ⟨rfl, hw⟩; obtain rfl := hw.symm) | (go_at_call 10; refine (kindOf_any _ _).mono ?_; rintro e w' ⟨rfl, hw⟩; obtain rfl := hw.symm) | (go_at_call 12; refine (charge_any _ _).mono ?_; rintro e w' ⟨rfl, hw⟩; obtain rfl := hw.symm) | (go_at_call 20; refine (align_any _ _).mono ?_; rintro e w' ⟨rfl, hw⟩; obtain rfl := hw.symm) | (go_at_call 16; refine (per_any _ _).mono ?_; rintro e w' ⟨rfl, hw⟩; obtain rfl := hw.symm) | (go_at_call 18; refine (pages_any _ _).mono ?_; rintro e w' ⟨rfl, hw⟩; obtain rfl := hw.symm))
  all_goals
    go_ret
    exact ⟨by first | rfl | (simp; omega), rfl⟩

theorem classFits_walk (n k : Int) (w : World) :
    Calls Try.prog 6 #[.int .i64 n, .int .i64 k] w fun e w' => e = .returned (.bool true) ∧ w' = w := by
  by_cases h : n < 1 ∨ 8192 < n
  · exact fits_out n k w h (by rw [show chargeT n = unitT (kindT n) by unfold chargeT; rfl, kind_out h, unit_out (by omega)])
  by_cases g : 256 < n
  · exact fits_run n k w g (by omega)
  by_cases g0 : n ≤ 16
  · exact fits_small0 n k w (by omega) g0
  by_cases g1 : n ≤ 32
  · exact fits_small1 n k w (by omega) g1
  by_cases g2 : n ≤ 48
  · exact fits_small2 n k w (by omega) g2
  by_cases g3 : n ≤ 64
  · exact fits_small3 n k w (by omega) g3
  by_cases g4 : n ≤ 96
  · exact fits_small4 n k w (by omega) g4
  by_cases g5 : n ≤ 128
  · exact fits_small5 n k w (by omega) g5
  by_cases g6 : n ≤ 192
  · exact fits_small6 n k w (by omega) g6
  exact fits_small7 n k w (by omega) (by omega)

end Go.Proofs.Ytcaffmnoddjoiaa
