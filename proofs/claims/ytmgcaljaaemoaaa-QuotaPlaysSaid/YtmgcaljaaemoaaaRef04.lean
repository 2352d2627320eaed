/- The contracts of the reference's sums (package garthref04) over this seat's translation. -/
import Derived.Test.YtmgcaljaaemoaaaSumw
import Derived.Below
namespace Go.Proofs.Ytmgcaljaaemoaaa
open Go.RowKit Flt

/-- A part may be. -/
@[irreducible] def okP (n : Int) : Bool := decide (0 ≤ n ∧ n ≤ 1099511627776)
theorem okP_iff {n : Int} : okP n = true ↔ 0 ≤ n ∧ n ≤ 1099511627776 := by unfold okP; exact decide_eq_true_iff
theorem okS_P (a b : Int) : okS a b = (okP a && okP b) := by unfold okS okP; by_cases h : 0 ≤ a ∧ a ≤ 1099511627776 <;> by_cases h' : 0 ≤ b ∧ b ≤ 1099511627776 <;> simp [h] <;> omega

theorem refRight_any (n : Int) (w : World) :
    Calls Try.prog 37 #[.int .i64 n] w fun e w' => e = .returned (.bool (okP n)) ∧ w' = w := by
  by_cases h0 : 0 ≤ n
  · by_cases h1 : n ≤ 1099511627776
    · rw [okP_iff.2 ⟨h0, h1⟩]
      go_enter Try.func37, Try.ntmps37
      go_wp2
      go_ret
      exact ⟨rfl, rfl⟩
    · rw [show okP n = false by rw [← Bool.not_eq_true, okP_iff]; omega]
      go_enter Try.func37, Try.ntmps37
      go_wp2
      go_ret
      exact ⟨rfl, rfl⟩
  · rw [show okP n = false by rw [← Bool.not_eq_true, okP_iff]; omega]
    go_enter Try.func37, Try.ntmps37
    go_wp2
    go_ret
    exact ⟨rfl, rfl⟩

/-- A sum of the reference's, in memory. -/
def sumO (a b : Int) : Obj := .cells #[.int .i64 a, .int .i64 b] 27

set_option maxHeartbeats 400000 in
theorem refOf_any (a b : Int) (w : World) :
    Calls Try.prog 24 #[.int .i64 a, .int .i64 b] w fun e w' => e = .returned (.tuple #[.agg #[.int .i64 (rB a b), .int .i64 (rP a b)], .int .i64 (rE a b)]) ∧ w' = w.alloc (sumO (rB a b) (rP a b)) := by
  unfold sumO
  cases h : okP a with
  | false =>
    obtain ⟨e1, e2, e3⟩ := r_no (show okS a b = false by rw [okS_P, h]; rfl)
    rw [e1, e2, e3]
    clear e1 e2 e3
    go_enter Try.func24, Try.ntmps24
    go_wp2_with (go_at_call 37; refine (refRight_any _ _).mono ?_; rintro e w' ⟨rfl, rfl⟩)
    exact bodyPost_ret (v := .tuple #[.agg #[.int .i64 0, .int .i64 0], .int .i64 12]) (by simp [results, Try.results24, go_sem]) rfl ⟨rfl, rfl⟩
  | true =>
    cases h' : okP b with
    | false =>
      obtain ⟨e1, e2, e3⟩ := r_no (show okS a b = false by rw [okS_P, h, h']; rfl)
      rw [e1, e2, e3]
      clear e1 e2 e3
      go_enter Try.func24, Try.ntmps24
      go_wp2_with (go_at_call 37; refine (refRight_any _ _).mono ?_; rintro e w' ⟨rfl, rfl⟩)
      exact bodyPost_ret (v := .tuple #[.agg #[.int .i64 0, .int .i64 0], .int .i64 12]) (by simp [results, Try.results24, go_sem]) rfl ⟨rfl, rfl⟩
    | true =>
      obtain ⟨e1, e2, e3⟩ := r_yes (show okS a b = true by rw [okS_P, h, h']; rfl)
      rw [e1, e2, e3]
      clear e1 e2 e3
      go_enter Try.func24, Try.ntmps24
      go_wp2_with (go_at_call 37; refine (refRight_any _ _).mono ?_; rintro e w' ⟨rfl, rfl⟩)
      exact bodyPost_ret (v := .tuple #[.agg #[.int .i64 a, .int .i64 b], .int .i64 0]) (by simp [results, Try.results24, go_sem]) rfl ⟨rfl, rfl⟩



set_option maxHeartbeats 400000 in
theorem refFits_any (a b c d : Int) (w : World) :
    Calls Try.prog 39 #[.agg #[.int .i64 a, .int .i64 b], .agg #[.int .i64 c, .int .i64 d]] w fun e w' =>
      e = .returned (.bool (fitsB a b c d)) ∧ w' = (w.alloc (sumO a b)).alloc (sumO c d) := by
  have e : fitsB a b c d = (decide (a ≤ c) && decide (b ≤ d)) := by unfold fitsB; simp
  rw [e]
  by_cases h1 : a ≤ c
  · by_cases h2 : b ≤ d
    · have d1 : decide (a ≤ c) = true := decide_eq_true h1
      have d2 : decide (b ≤ d) = true := decide_eq_true h2
      rw [d1, d2]
      go_enter Try.func39, Try.ntmps39
      go_wp2
      go_ret
      exact ⟨rfl, rfl⟩
    · have d1 : decide (a ≤ c) = true := decide_eq_true h1
      have d2 : decide (b ≤ d) = false := decide_eq_false h2
      rw [d1, d2]
      go_enter Try.func39, Try.ntmps39
      go_wp2
      go_ret
      exact ⟨rfl, rfl⟩
  · have d1 : decide (a ≤ c) = false := decide_eq_false h1
    rw [d1]
    go_enter Try.func39, Try.ntmps39
    go_wp2
    go_ret
    exact ⟨rfl, rfl⟩

end Go.Proofs.Ytmgcaljaaemoaaa
