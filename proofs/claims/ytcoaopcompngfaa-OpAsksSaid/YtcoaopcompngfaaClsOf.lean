/- The contract of class.Of over this seat's translation. -/
import Derived.Test.YtcoaopcompngfaaCls
namespace Go.Proofs.Ytcoaopcompngfaa
open Go.RowKit

attribute [local irreducible] smallT unitT kindT perT pagesT alignT chargeT

theorem kindOf_out (n : Int) (w : World) (h : n < 1 ∨ 8192 < n) :
    Calls Try.prog 17 #[.int .i64 n] w fun e w' => e = .returned (.int .i64 (-1)) ∧ w' = w := by
  rcases h with h | h
  · go_enter Try.func17, Try.ntmps17
    go_wp2
    go_step3
    go_wp2
    rw [Exit.noGoto_ret]
    go_ret
    exact ⟨rfl, rfl⟩
  · have h0 : 1 ≤ n := by omega
    go_enter Try.func17, Try.ntmps17
    go_wp2
    go_step3
    go_wp2
    rw [Exit.noGoto_ret]
    go_ret
    exact ⟨rfl, rfl⟩

theorem kindOf_run (n : Int) (w : World) (h : 256 < n) (h' : n ≤ 8192) :
    Calls Try.prog 17 #[.int .i64 n] w fun e w' => e = .returned (.int .i64 (8 + (n - 1) / 512)) ∧ w' = w := by
  have h0 : 1 ≤ n := by omega
  have d1 : decide (n < 1) = false := decide_eq_false (by omega)
  have d2 : decide (8192 < n) = false := decide_eq_false (by omega)
  go_enter Try.func17, Try.ntmps17
  go_wp2
  refine wp_scope_jumps 0 (fun a' w' => w' = w ∧ a' = { tmps := #[.int .i64 n, undef, .int .i64 0, .int .i64 0, .int .i64 n, .bool false, .bool false, .int .i64 n, .bool false, .bool false, .int .i64 n, .bool true, undef, undef, undef, undef, undef, undef, undef, undef, undef, undef, undef], defers := [] }) (fun _ _ => 0) rfl ?_ ?_
  · go_wp2
    go_step3
    exact ⟨rfl, rfl, rfl⟩
  · rintro a' w' ⟨rfl, rfl⟩
    go_wp2
    simp only [Exit.jump]
    go_ret
    exact ⟨rfl, rfl⟩

theorem kindOf_small (n : Int) (w : World) (h : 1 ≤ n) (h' : n ≤ 256) :
    Calls Try.prog 17 #[.int .i64 n] w fun e w' => e = .returned (.int .i64 (kindT n)) ∧ w' = w := by
  have ha : n ≤ 8192 := by omega
  have d3 : decide (256 < n) = false := decide_eq_false (by omega)
  have hk := Lib.hid (kind_small h h')
  go_enter Try.func17, Try.ntmps17
  go_wp2
  refine wp_scope_jumps 1 (fun a' w' => w' = w ∧ ∃ (c : Int) (u2 u4 u5 u6 u7 u8 u9 u10 u11 u12 u13 u14 u15 u16 u17 u18 u19 u20 u21 u22 : Value), a' = { tmps := #[.int .i64 n, undef, u2, .int .i64 c, u4, u5, u6, u7, u8, u9, u10, u11, u12, u13, u14, u15, u16, u17, u18, u19, u20, u21, u22], defers := [] } ∧ 0 ≤ c ∧ c ≤ kindT n) (fun a' _ => (7 - intOf (a'.tmps.getD 3 undef)).toNat) rfl ?_ ?_
  · by_cases hn : smallT 0 < n
    · have hc : Hid (1 ≤ kindT n) := Lib.hid (by
        have := hk.out
        have e : ¬ kindT n = 0 := fun e => by rw [e] at this; omega
        omega)
      go_wp2
      go_step3
      go_wp2_with (go_at_call 21; refine (small_any 0 _ (by omega) (by omega)).mono ?_; rintro e w' ⟨rfl, hw⟩; obtain rfl := hw.symm)
      go_step3
      exact ⟨rfl, rfl, 1, _, _, _, _, _, _, _, _, _, _, _, _, _, _, _, _, _, _, _, _, rfl, by omega, hc.out⟩
    · have hc : Hid (kindT n = 0) := Lib.hid (kind_eq h h' (by omega) (by omega) (by omega) (fun q => by omega))
      go_wp2
      go_step3
      go_wp2_with (go_at_call 21; refine (small_any 0 _ (by omega) (by omega)).mono ?_; rintro e w' ⟨rfl, hw⟩; obtain rfl := hw.symm)
      simp only [Exit.jump]
      go_ret
      rw [hc.out]
      exact ⟨rfl, rfl⟩
  · rintro a' w' ⟨rfl, c, u2, u4, u5, u6, u7, u8, u9, u10, u11, u12, u13, u14, u15, u16, u17, u18, u19, u20, u21, u22, rfl, h0, hck⟩
    have h7 : c ≤ 7 := by have := hk.out; omega
    by_cases hn : smallT c < n
    · have hc : Hid (c + 1 ≤ kindT n) := Lib.hid (by
        have := hk.out
        have e : ¬ kindT n = c := fun e => by rw [e] at this; omega
        omega)
      replace hck := Lib.hid hck
      go_wp2_with (go_at_call 21; refine (small_any c _ h0 h7).mono ?_; rintro e w' ⟨rfl, hw⟩; obtain rfl := hw.symm)
      go_step3
      refine ⟨rfl, ⟨rfl, c + 1, _, _, _, _, _, _, _, _, _, _, _, _, _, _, _, _, _, _, _, _, rfl, by omega, hc.out⟩, ?_⟩
      have := hk.out
      have := hc.out
      simp [intOf]
      omega
    · have hc : Hid (kindT n = c) := Lib.hid (kind_eq h h' h0 h7 (by omega) (fun q => hk.out.2.2.2 (c - 1) (by omega) (by omega)))
      replace hck := Lib.hid hck
      go_wp2_with (go_at_call 21; refine (small_any c _ h0 h7).mono ?_; rintro e w' ⟨rfl, hw⟩; obtain rfl := hw.symm)
      simp only [Exit.jump]
      go_ret
      rw [hc.out]
      exact ⟨rfl, rfl⟩

theorem kindOf_any (n : Int) (w : World) :
    Calls Try.prog 17 #[.int .i64 n] w fun e w' => e = .returned (.int .i64 (kindT n)) ∧ w' = w := by
  by_cases h : n < 1 ∨ 8192 < n
  · rw [kind_out h]; exact kindOf_out n w h
  · by_cases h' : n ≤ 256
    · exact kindOf_small n w (by omega) h'
    · rw [kind_run (by omega) (by omega)]; exact kindOf_run n w (by omega) (by omega)

end Go.Proofs.Ytcoaopcompngfaa
