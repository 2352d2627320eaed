/- The contracts of package place (addresses) over this seat's translation. -/
import Derived.Test.YtbefbkjhfkdihaaPlaceP
import Derived.Test.YtbefbkjhfkdihaaClsTab
import Derived.Deep.QuietTactic
import Derived.BigQuiet
namespace Go.Proofs.Ytbefbkjhfkdihaa
open Go.RowKit

attribute [local irreducible] smallT unitT kindT perT pagesT alignT chargeT

theorem slots_any (c : Int) (w : World) :
    Calls Try.prog 12 #[.int .i64 c] w fun e w' => e = .returned (.int .i64 (slotsT c)) ∧ w' = w := by
  by_cases hc : c < 0 ∨ 23 < c
  · rw [slots_out hc]
    have hp := pages_out hc
    clear hc
    go_enter Try.func12, Try.ntmps12
    go_wp2_with (go_at_call 27; refine (pages_any _ _).mono ?_; rintro e w' ⟨rfl, hw⟩; obtain rfl := hw.symm)
    go_ret
    exact ⟨rfl, rfl⟩
  · rw [slots_in (by omega) (by omega)]
    obtain ⟨_, _, p0, p1, _⟩ := kind_facts (c := c) (by omega) (by omega)
    clear hc
    go_enter Try.func12, Try.ntmps12
    go_wp2_with (go_at_call 27; refine (pages_any _ _).mono ?_; rintro e w' ⟨rfl, hw⟩; obtain rfl := hw.symm)
    go_ret
    exact ⟨rfl, rfl⟩

theorem pages_bound (c : Int) : 0 ≤ pagesT c ∧ pagesT c ≤ 16 := by
  by_cases hc : c < 0 ∨ 23 < c
  · rw [pages_out hc]; omega
  · have := kind_facts (c := c) (by omega) (by omega); omega

theorem step_any (c : Int) (w : World) :
    Calls Try.prog 23 #[.int .i64 c] w fun e w' => e = .returned (.int .i64 (pagesT c * 512)) ∧ w' = w := by
  obtain ⟨p0, p1⟩ := pages_bound c
  go_enter Try.func23, Try.ntmps23
  go_wp2_with (go_at_call 27; refine (pages_any _ _).mono ?_; rintro e w' ⟨rfl, hw⟩; obtain rfl := hw.symm)
  go_ret
  exact ⟨rfl, rfl⟩

theorem placeOf_yes (c s k : Int) (w : World) (h : thereT c s k = true) :
    Calls Try.prog 8 #[.int .i64 c, .int .i64 s, .int .i64 k] w fun e w' => e = .returned (.tuple #[.int .i64 (posT c s k), .int .i64 0]) ∧ w' = w := by
  obtain ⟨c0, c1⟩ := there_kind h
  obtain ⟨s0, s1, k0, k1⟩ := there_iff.1 h
  obtain ⟨b0, b1, b2, b3⟩ := pos_bounds h
  obtain ⟨u0, u1, p0, p1, n0, n1, _, r0, r1, _⟩ := kind_facts c0 c1
  by_cases hr : 1 ≤ perT c
  · rw [room_per hr] at k1 r1
    unfold posT
    clear h
    go_enter Try.func8, Try.ntmps8
    go_wp2_with (first | (go_at_call 12; refine (slots_any _ _).mono ?_; rintro e w' ⟨rfl, hw⟩; obtain rfl := hw.symm) | (go_at_call 22; refine (per_any _ _).mono ?_; rintro e w' ⟨rfl, hw⟩; obtain rfl := hw.symm) | (go_at_call 23; refine (step_any _ _).mono ?_; rintro e w' ⟨rfl, hw⟩; obtain rfl := hw.symm) | (go_at_call 24; refine (unit_any _ _).mono ?_; rintro e w' ⟨rfl, hw⟩; obtain rfl := hw.symm))
    all_goals
      go_ret2
      exact ⟨rfl, rfl⟩
  · rw [room_one (by omega)] at k1 r1
    unfold posT
    clear h
    go_enter Try.func8, Try.ntmps8
    go_wp2_with (first | (go_at_call 12; refine (slots_any _ _).mono ?_; rintro e w' ⟨rfl, hw⟩; obtain rfl := hw.symm) | (go_at_call 22; refine (per_any _ _).mono ?_; rintro e w' ⟨rfl, hw⟩; obtain rfl := hw.symm) | (go_at_call 23; refine (step_any _ _).mono ?_; rintro e w' ⟨rfl, hw⟩; obtain rfl := hw.symm) | (go_at_call 24; refine (unit_any _ _).mono ?_; rintro e w' ⟨rfl, hw⟩; obtain rfl := hw.symm))
    all_goals
      go_ret2
      exact ⟨rfl, rfl⟩

theorem per_bound (c : Int) : 0 ≤ perT c ∧ perT c ≤ 32 := by
  by_cases hc : c < 0 ∨ 7 < c
  · rw [per_out hc]; omega
  · have := per_cases (c := c) (by omega) (by omega); omega

theorem placeOf_no (c s k : Int) (w : World) (h : thereT c s k = false) :
    Calls Try.prog 8 #[.int .i64 c, .int .i64 s, .int .i64 k] w fun e w' => e = .returned (.tuple #[.int .i64 0, .int .i64 12]) ∧ w' = w := by
  have g : s < 0 ∨ (0 ≤ s ∧ slotsT c ≤ s) ∨ (0 ≤ s ∧ s < slotsT c ∧ k < 0) ∨ (0 ≤ s ∧ s < slotsT c ∧ 0 ≤ k ∧ roomT c ≤ k) := by
    by_cases a : s < 0
    · exact .inl a
    by_cases b : slotsT c ≤ s
    · exact .inr (.inl ⟨by omega, b⟩)
    by_cases d : k < 0
    · exact .inr (.inr (.inl ⟨by omega, by omega, d⟩))
    by_cases e : roomT c ≤ k
    · exact .inr (.inr (.inr ⟨by omega, by omega, by omega, e⟩))
    rw [there_iff.2 ⟨by omega, by omega, by omega, by omega⟩] at h
    cases h
  clear h
  obtain ⟨r0, r1⟩ := per_bound c
  have hr : (perT c < 1 ∧ roomT c = 1) ∨ (1 ≤ perT c ∧ roomT c = perT c) := by
    by_cases q : perT c < 1
    · exact .inl ⟨q, room_one q⟩
    · exact .inr ⟨by omega, room_per (by omega)⟩
  rcases g with g | ⟨g0, g⟩ | ⟨g0, g1, g⟩ | ⟨g0, g1, g2, g⟩
  · clear hr r0 r1
    go_enter Try.func8, Try.ntmps8
    go_wp2
    go_ret2
    exact ⟨rfl, rfl⟩
  · clear hr r0 r1
    go_enter Try.func8, Try.ntmps8
    go_wp2_with (go_at_call 12; refine (slots_any _ _).mono ?_; rintro e w' ⟨rfl, hw⟩; obtain rfl := hw.symm)
    go_ret2
    exact ⟨rfl, rfl⟩
  · clear hr r0 r1
    go_enter Try.func8, Try.ntmps8
    go_wp2_with (go_at_call 12; refine (slots_any _ _).mono ?_; rintro e w' ⟨rfl, hw⟩; obtain rfl := hw.symm)
    go_ret2
    exact ⟨rfl, rfl⟩
  · rcases hr with ⟨q, hr⟩ | ⟨q, hr⟩
    all_goals
      rw [hr] at g
      clear hr
      go_enter Try.func8, Try.ntmps8
      go_wp2_with (first | (go_at_call 12; refine (slots_any _ _).mono ?_; rintro e w' ⟨rfl, hw⟩; obtain rfl := hw.symm) | (go_at_call 22; refine (per_any _ _).mono ?_; rintro e w' ⟨rfl, hw⟩; obtain rfl := hw.symm))
      all_goals
        go_ret2
        exact ⟨rfl, rfl⟩

/-! ### Find -/
def ansF (a : Int) : Value := if foundB a = true then .tuple #[.int .i64 (kdT a), .int .i64 (slT a), .int .i64 (nrT a), .int .i64 0] else .tuple #[.int .i64 0, .int .i64 0, .int .i64 0, .int .i64 4]

theorem find_yes (a : Int) (w : World) (h : foundB a = true) :
    Calls Try.prog 14 #[.int .i64 a] w fun e w' => e = .returned (.tuple #[.int .i64 (kdT a), .int .i64 (slT a), .int .i64 (nrT a), .int .i64 0]) ∧ ∃ n, w' = w.drewN n := by
  obtain ⟨a0, a1, ht, hp⟩ := found_iff.1 h
  clear h
  obtain ⟨c0, c1⟩ := kd_bound a0 a1
  obtain ⟨u0, u1, p0, p1, _⟩ := kind_facts c0 c1
  have e0 : a / 131072 - 1 = kdT a := rfl
  have g0 : 0 ≤ a % 131072 % (pagesT (kdT a) * 512) := Int.emod_nonneg _ (by omega)
  have g1 : a % 131072 % (pagesT (kdT a) * 512) < pagesT (kdT a) * 512 := Int.emod_lt_of_pos _ (by omega)
  have e1 : a % 131072 / (pagesT (kdT a) * 512) = slT a := rfl
  have e2 : a % 131072 % (pagesT (kdT a) * 512) / unitT (kdT a) = nrT a := rfl
  have hq : (posT (kdT a) (slT a) (nrT a) != a) = false := by simp [hp]
  clear hp
  go_enter Try.func14, Try.ntmps14
  go_wp2_with (first | (go_at_call 23; refine (step_any _ _).mono ?_; rintro e w' ⟨rfl, hw⟩; obtain rfl := hw.symm))
  go_quiet ((first | (go_at_call 23; exact Calls.quiet_of_same (step_any _ _)) | (go_at_call 24; exact Calls.quiet_of_same (unit_any _ _))))
  go_wp2_with (go_at_call 8; refine (placeOf_yes _ _ _ _ ht).mono ?_; rintro e w' ⟨rfl, hw⟩; obtain rfl := hw.symm)
  exact bodyPost_ret (v := .tuple #[.int .i64 (kdT a), .int .i64 (slT a), .int .i64 (nrT a), .int .i64 0]) (by simp [results, Try.results14, go_sem]) rfl ⟨rfl, nq, rfl⟩

theorem find_no (a : Int) (w : World) (h : foundB a = false) :
    Calls Try.prog 14 #[.int .i64 a] w fun e w' => e = .returned (.tuple #[.int .i64 0, .int .i64 0, .int .i64 0, .int .i64 4]) ∧ ∃ n, w' = w.drewN n := by
  by_cases a0 : a < 131072
  · clear h
    go_enter Try.func14, Try.ntmps14
    go_wp2
    exact bodyPost_ret (v := .tuple #[.int .i64 0, .int .i64 0, .int .i64 0, .int .i64 4]) (by simp [results, Try.results14, go_sem]) rfl ⟨rfl, 0, rfl⟩
  by_cases a1 : 3276800 ≤ a
  · clear h
    go_enter Try.func14, Try.ntmps14
    go_wp2
    exact bodyPost_ret (v := .tuple #[.int .i64 0, .int .i64 0, .int .i64 0, .int .i64 4]) (by simp [results, Try.results14, go_sem]) rfl ⟨rfl, 0, rfl⟩
  have b0 : 131072 ≤ a := by omega
  have b1 : a < 3276800 := by omega
  have hp : thereT (kdT a) (slT a) (nrT a) = false ∨ (thereT (kdT a) (slT a) (nrT a) = true ∧ (posT (kdT a) (slT a) (nrT a) != a) = true) := by
    cases ht : thereT (kdT a) (slT a) (nrT a) with
    | false => exact .inl rfl
    | true =>
      refine .inr ⟨rfl, ?_⟩
      rw [bne_iff_ne]
      exact not_found h ht
  clear h a0 a1
  obtain ⟨c0, c1⟩ := kd_bound b0 b1
  obtain ⟨u0, u1, p0, p1, _⟩ := kind_facts c0 c1
  have e0 : a / 131072 - 1 = kdT a := rfl
  have g0 : 0 ≤ a % 131072 % (pagesT (kdT a) * 512) := Int.emod_nonneg _ (by omega)
  have g1 : a % 131072 % (pagesT (kdT a) * 512) < pagesT (kdT a) * 512 := Int.emod_lt_of_pos _ (by omega)
  have e1 : a % 131072 / (pagesT (kdT a) * 512) = slT a := rfl
  have e2 : a % 131072 % (pagesT (kdT a) * 512) / unitT (kdT a) = nrT a := rfl
  rcases hp with ht | ⟨ht, hq⟩
  · go_enter Try.func14, Try.ntmps14
    go_wp2_with (first | (go_at_call 23; refine (step_any _ _).mono ?_; rintro e w' ⟨rfl, hw⟩; obtain rfl := hw.symm))
    go_quiet ((first | (go_at_call 23; exact Calls.quiet_of_same (step_any _ _)) | (go_at_call 24; exact Calls.quiet_of_same (unit_any _ _))))
    go_wp2_with (go_at_call 8; refine (placeOf_no _ _ _ _ ht).mono ?_; rintro e w' ⟨rfl, hw⟩; obtain rfl := hw.symm)
    exact bodyPost_ret (v := .tuple #[.int .i64 0, .int .i64 0, .int .i64 0, .int .i64 4]) (by simp [results, Try.results14, go_sem]) rfl ⟨rfl, nq, rfl⟩
  · go_enter Try.func14, Try.ntmps14
    go_wp2_with (first | (go_at_call 23; refine (step_any _ _).mono ?_; rintro e w' ⟨rfl, hw⟩; obtain rfl := hw.symm))
    go_quiet ((first | (go_at_call 23; exact Calls.quiet_of_same (step_any _ _)) | (go_at_call 24; exact Calls.quiet_of_same (unit_any _ _))))
    go_wp2_with (go_at_call 8; refine (placeOf_yes _ _ _ _ ht).mono ?_; rintro e w' ⟨rfl, hw⟩; obtain rfl := hw.symm)
    exact bodyPost_ret (v := .tuple #[.int .i64 0, .int .i64 0, .int .i64 0, .int .i64 4]) (by simp [results, Try.results14, go_sem]) rfl ⟨rfl, nq, rfl⟩

/-! ### Within -/
def insideB (a n : Int) : Bool := decide (0 ≤ n) && decide (131072 ≤ a) && decide (a ≤ 3276800) && decide (n ≤ 3276800 - a)

theorem inside_no {a n : Int} (h : n < 0 ∨ a < 131072 ∨ 3276800 < a) : insideB a n = false := by
  unfold insideB
  rcases h with h | h | h
  · rw [decide_eq_false (by omega : ¬ 0 ≤ n)]; rfl
  · rw [decide_eq_false (by omega : ¬ 131072 ≤ a)]; simp
  · rw [decide_eq_false (by omega : ¬ a ≤ 3276800)]; simp
theorem inside_in {a n : Int} (h0 : 0 ≤ n) (h1 : 131072 ≤ a) (h2 : a ≤ 3276800) : insideB a n = decide (n ≤ 3276800 - a) := by
  unfold insideB
  rw [decide_eq_true h0, decide_eq_true h1, decide_eq_true h2]; simp

theorem within2_any (a n : Int) (w : World) :
    Calls Try.prog 18 #[.int .i64 a, .int .i64 n] w fun e w' => e = .returned (.bool (insideB a n)) ∧ w' = w := by
  by_cases h0 : n < 0
  · rw [inside_no (.inl h0)]
    go_enter Try.func18, Try.ntmps18
    go_wp2
    go_ret
    exact ⟨rfl, rfl⟩
  by_cases h1 : a < 131072
  · rw [inside_no (.inr (.inl h1))]
    have h0' : 0 ≤ n := by omega
    go_enter Try.func18, Try.ntmps18
    go_wp2
    go_ret
    exact ⟨rfl, rfl⟩
  have h0' : 0 ≤ n := by omega
  have h1' : 131072 ≤ a := by omega
  by_cases h2 : 3276800 < a
  · rw [inside_no (.inr (.inr h2))]
    go_enter Try.func18, Try.ntmps18
    go_wp2
    go_ret
    exact ⟨rfl, rfl⟩
  have h2' : a ≤ 3276800 := by omega
  rw [inside_in h0' h1' h2']
  clear h0 h1 h2
  go_enter Try.func18, Try.ntmps18
  go_wp2
  go_ret
  exact ⟨rfl, rfl⟩

end Go.Proofs.Ytbefbkjhfkdihaa
