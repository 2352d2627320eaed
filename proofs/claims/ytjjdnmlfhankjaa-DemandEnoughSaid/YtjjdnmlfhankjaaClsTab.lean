/- The contracts of class.within, Unit, Per and Pages over this seat's translation. -/
import Derived.Test.YtjjdnmlfhankjaaCls
import Derived.Test.YtjjdnmlfhankjaaBase
namespace Go.Proofs.Ytjjdnmlfhankjaa
open Go.RowKit

attribute [local irreducible] smallT unitT kindT perT pagesT alignT chargeT

theorem within_yes (c : Int) (w : World) (h0 : 0 ≤ c) (h7 : c ≤ 23) :
    Calls Try.prog 30 #[.int .i64 c] w fun e w' => e = .returned (.bool true) ∧ w' = w := by
  go_enter Try.func30, Try.ntmps30
  go_wp2
  go_ret
  exact ⟨by simp; omega, rfl⟩

theorem within_no (c : Int) (w : World) (h : c < 0 ∨ 23 < c) :
    Calls Try.prog 30 #[.int .i64 c] w fun e w' => e = .returned (.bool false) ∧ w' = w := by
  rcases h with h | h
  · go_enter Try.func30, Try.ntmps30
    go_wp2
    go_ret
    exact ⟨rfl, rfl⟩
  · have h0 : 0 ≤ c := by omega
    go_enter Try.func30, Try.ntmps30
    go_wp2
    go_ret
    exact ⟨by simp; omega, rfl⟩

theorem pages_any (c : Int) (w : World) :
    Calls Try.prog 32 #[.int .i64 c] w fun e w' => e = .returned (.int .i64 (pagesT c)) ∧ w' = w := by
  by_cases hc : c < 0 ∨ 23 < c
  · rw [pages_out hc]
    replace hc := Lib.hid hc
    go_enter Try.func32, Try.ntmps32
    go_wp2_with (go_at_call 30; refine (within_no _ _ hc.out).mono ?_; rintro e w' ⟨rfl, hw⟩; obtain rfl := hw.symm)
    go_ret
    exact ⟨rfl, rfl⟩
  · have h0 : 0 ≤ c := by omega
    have h1 : c ≤ 23 := by omega
    clear hc
    by_cases h7 : c ≤ 7
    · rw [pages_small h0 h7]
      have hm : ¬ (1 < c - 8 + 1) := by omega
      go_enter Try.func32, Try.ntmps32
      go_wp2_with (go_at_call 30; refine (within_yes _ _ h0 h1).mono ?_; rintro e w' ⟨rfl, hw⟩; obtain rfl := hw.symm)
      go_ret
      exact ⟨rfl, rfl⟩
    · rw [pages_run (by omega) h1]
      go_enter Try.func32, Try.ntmps32
      go_wp2_with (go_at_call 30; refine (within_yes _ _ h0 h1).mono ?_; rintro e w' ⟨rfl, hw⟩; obtain rfl := hw.symm)
      all_goals
        go_ret
        exact ⟨ret_eq (by omega), rfl⟩

theorem unit_any (c : Int) (w : World) :
    Calls Try.prog 28 #[.int .i64 c] w fun e w' => e = .returned (.int .i64 (unitT c)) ∧ w' = w := by
  by_cases hc : c < 0 ∨ 23 < c
  · rw [unit_out hc]
    replace hc := Lib.hid hc
    go_enter Try.func28, Try.ntmps28
    go_wp2_with (go_at_call 30; refine (within_no _ _ hc.out).mono ?_; rintro e w' ⟨rfl, hw⟩; obtain rfl := hw.symm)
    go_ret
    exact ⟨rfl, rfl⟩
  · have h0 : 0 ≤ c := by omega
    have h1 : c ≤ 23 := by omega
    clear hc
    by_cases h7 : c ≤ 7
    · rw [unit_small h0 h7]
      go_enter Try.func28, Try.ntmps28
      go_wp2_with (first | (go_at_call 30; refine (within_yes _ _ h0 h1).mono ?_; rintro e w' ⟨rfl, hw⟩; obtain rfl := hw.symm) | (go_at_call 31; refine (small_any _ _ h0 h7).mono ?_; rintro e w' ⟨rfl, hw⟩; obtain rfl := hw.symm))
      go_ret
      exact ⟨rfl, rfl⟩
    · rw [unit_run (by omega) h1]
      have hp := Lib.hid (pages_run (by omega : 8 ≤ c) h1)
      have hp' : ∀ w, Calls Try.prog 32 #[.int .i64 c] w fun e w' => e = .returned (.int .i64 (c - 7)) ∧ w' = w := by
        intro w; have := pages_any c w; rwa [hp.out] at this
      replace hp' := Lib.hid hp'
      go_enter Try.func28, Try.ntmps28
      go_wp2_with (first | (go_at_call 30; refine (within_yes _ _ h0 h1).mono ?_; rintro e w' ⟨rfl, hw⟩; obtain rfl := hw.symm) | (go_at_call 32; refine (hp'.out _).mono ?_; rintro e w' ⟨rfl, hw⟩; obtain rfl := hw.symm))
      go_ret
      exact ⟨rfl, rfl⟩

theorem per_any (c : Int) (w : World) :
    Calls Try.prog 27 #[.int .i64 c] w fun e w' => e = .returned (.int .i64 (perT c)) ∧ w' = w := by
  by_cases hc : c < 0 ∨ 7 < c
  · rw [per_out hc]
    by_cases hd : c < 0 ∨ 23 < c
    · replace hd := Lib.hid hd
      clear hc
      go_enter Try.func27, Try.ntmps27
      go_wp2_with (go_at_call 30; refine (within_no _ _ hd.out).mono ?_; rintro e w' ⟨rfl, hw⟩; obtain rfl := hw.symm)
      go_ret
      exact ⟨rfl, rfl⟩
    · have h0 : 0 ≤ c := by omega
      have h1 : c ≤ 23 := by omega
      have h2 : 8 ≤ c := by omega
      clear hc hd
      go_enter Try.func27, Try.ntmps27
      go_wp2_with (go_at_call 30; refine (within_yes _ _ h0 h1).mono ?_; rintro e w' ⟨rfl, hw⟩; obtain rfl := hw.symm)
      go_ret
      exact ⟨rfl, rfl⟩
  · rcases per_cases (by omega : 0 ≤ c) (by omega : c ≤ 7) with ⟨rfl, e⟩ | ⟨rfl, e⟩ | ⟨rfl, e⟩ | ⟨rfl, e⟩ | ⟨rfl, e⟩ | ⟨rfl, e⟩ | ⟨rfl, e⟩ | ⟨rfl, e⟩
    all_goals
      rw [e]
      clear hc e
      go_enter Try.func27, Try.ntmps27
      go_wp2
      go_ret
      exact ⟨rfl, rfl⟩

end Go.Proofs.Ytjjdnmlfhankjaa
