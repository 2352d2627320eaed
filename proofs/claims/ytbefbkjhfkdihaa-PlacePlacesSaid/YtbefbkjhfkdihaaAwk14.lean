/- The contract of place.At; 'awake' of chapter 14 answers true. -/
import Derived.Test.YtbefbkjhfkdihaaRef14
import Derived.Test.YtbefbkjhfkdihaaFlt
namespace Go.Proofs.Ytbefbkjhfkdihaa
open Go.RowKit Flt

theorem at_in (a : Int) (w : World) (h0 : 131072 ≤ a) (h1 : a < 3276800) :
    Calls Try.prog 19 #[.int .i64 a] w fun e w' => e = .returned (.tuple #[.complex .f64 (F (a / 512)) (F (a % 512)), .int .i64 0]) ∧ w' = w := by
  go_enter Try.func19, Try.ntmps19
  go_wp2
  go_ret2
  exact ⟨rfl, rfl⟩

theorem at_out (a : Int) (w : World) (h : a < 131072 ∨ 3276800 ≤ a) :
    Calls Try.prog 19 #[.int .i64 a] w fun e w' => e = .returned (.tuple #[.complex .f64 0 0, .int .i64 4]) ∧ w' = w := by
  rcases h with h | h
  all_goals
    go_enter Try.func19, Try.ntmps19
    go_wp2
    go_ret2
    exact ⟨rfl, rfl⟩

theorem t012 : thereT 0 1 2 = true := by decide
theorem p012 : posT 0 1 2 = 131616 := by decide
theorem f1 : foundB 131088 = true := by decide
theorem f1k : kdT 131088 = 0 ∧ slT 131088 = 0 ∧ nrT 131088 = 1 := by decide
theorem f2 : foundB 131089 = false := by decide
theorem s9 : slotsT 9 = 128 := by decide

attribute [local irreducible] smallT unitT kindT perT pagesT alignT chargeT

theorem of012 (w : World) : Calls Try.prog 8 #[.int .i64 0, .int .i64 1, .int .i64 2] w fun e w' => e = .returned (.tuple #[.int .i64 131616, .int .i64 0]) ∧ w' = w := by
  have := placeOf_yes 0 1 2 w t012
  rwa [p012] at this
theorem find1 (w : World) : Calls Try.prog 14 #[.int .i64 131088] w fun e w' => e = .returned (.tuple #[.int .i64 0, .int .i64 0, .int .i64 1, .int .i64 0]) ∧ ∃ n, w' = w.drewN n := by
  have := find_yes 131088 w f1
  rwa [f1k.1, f1k.2.1, f1k.2.2] at this
theorem at1 (w : World) : Calls Try.prog 19 #[.int .i64 131616] w fun e w' => e = .returned (.tuple #[.complex .f64 (F 257) (F 32), .int .i64 0]) ∧ w' = w := at_in 131616 w (by omega) (by omega)
theorem slots9 (w : World) : Calls Try.prog 12 #[.int .i64 9] w fun e w' => e = .returned (.int .i64 128) ∧ w' = w := by
  have := slots_any 9 w
  rwa [s9] at this

theorem awake_any (w : World) : Calls Try.prog 10 #[] w fun e w' => e = .returned (.bool true) ∧ ∃ n, w' = w.drewN n := by
  go_enter Try.func10, Try.ntmps10
  go_wp2_with fail
  refine (of012 _).mono ?_; rintro e w' ⟨rfl, hw⟩; obtain rfl := hw.symm
  go_wp2_with fail
  refine (find1 _).mono ?_; rintro e w1 ⟨rfl, n1, hw1⟩
  go_wp2_with fail
  refine (find_no _ _ f2).mono ?_; rintro e w2 ⟨rfl, n2, hw2⟩
  go_wp2_with fail
  refine (at1 _).mono ?_; rintro e w' ⟨rfl, hw⟩; obtain rfl := hw.symm
  go_wp2_with fail
  refine (slots9 _).mono ?_; rintro e w' ⟨rfl, hw⟩; obtain rfl := hw.symm
  go_wp2_with fail
  go_ret
  exact ⟨rfl, _, rfl⟩

end Go.Proofs.Ytbefbkjhfkdihaa
