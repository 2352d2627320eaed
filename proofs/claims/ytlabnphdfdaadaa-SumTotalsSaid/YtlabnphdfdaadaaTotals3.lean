/- The walk of SumTotals, at lists without a number, and joined. -/
import Derived.Test.YtlabnphdfdaadaaTotals2
import Derived.Test.YtlabnphdfdaadaaRef04t
import Derived.Test.YtlabnphdfdaadaaOrder
import Derived.Test.YtlabnphdfdaadaaParts
import Derived.Test.YtlabnphdfdaadaaAwk04
import Derived.Deep.RegionLaw
namespace Go.Proofs.Ytlabnphdfdaadaa
open Go.RowKit Flt

theorem same_zero (w : World) : Calls Try.prog 18 #[.complex .f64 0 0, .int .i64 0, .agg #[.int .i64 0, .int .i64 0], .int .i64 0] w fun r w' =>
      r = .returned (.bool true) ∧ ∃ k, w' = (w.alloc (sumO 0 0)).drewN k := by
  have := same_any 0 0 0 w (ok_lit (by omega)) (by omega)
  rwa [F_zero] at this

set_option maxRecDepth 100000 in
set_option maxHeartbeats 1000000 in
theorem totals_zero1 (A1 A2 : Option Addr) (n2 c1 c2 : Nat) (w : World) (hn2 : n2 ≤ 1000) :
    Calls Try.prog 8 #[.slice A1 0 c1, .slice A2 n2 c2] w fun e w' => e = .returned (.bool true) ∧ Below w.heap.size w w' := by
  have d2 : decide (1000 < (n2 : Int)) = false := decide_eq_false (by omega)
  have hm : ¬ (n2 : Int) < 0 := by omega
  have hl0 := eql_same (a := 0) (b := 0) (ok_lit (by omega))
  rw [F_zero] at hl0
  go_enter Try.func8, Try.ntmps8
  go_wp2_with fail
  go_loopw [5, 6, 8, 31] (fun l m f i wr => l = .slice none 0 0 ∧ m = .slice none 0 0 ∧ f = .int .i64 0 ∧ i = .int .i64 0 ∧ wr = w.alloc (.cells #[.int .i64 0, .int .i64 0] 36)) (fun _ _ _ _ _ => 0)
  case atStart => exact ⟨rfl, rfl, rfl, rfl, rfl⟩
  case round =>
    obtain ⟨rfl, rfl, rfl, rfl, rfl⟩ := hrel
    go_wp2_with fail
    refine (total_nil 0 none _).mono ?_; rintro e w' ⟨rfl, rfl⟩
    go_wp2_with fail
    refine (total_nil 0 none _).mono ?_; rintro e w' ⟨rfl, rfl⟩
    go_wp2_with fail
    refine (awake_any _).mono ?_; rintro e w' ⟨rfl, rfl⟩
    go_wp2_with fail
    refine (same_zero _).mono ?_; rintro e w' ⟨rfl, kk, rfl⟩
    go_wp2_with fail
    go_ret
    refine ⟨rfl, ?_⟩
    repeat (first | with_reducible exact Below.refl _ _ | with_reducible refine Below.drew ?_ | with_reducible refine below_N ?_ | (with_reducible refine below_set ?_ ?_; · (dsimp only; (first | omega | (simp; done) | (simp; omega)))) | (with_reducible refine below_alloc ?_ ?_; · (first | omega | (simp; done) | (simp; omega))))

set_option maxRecDepth 100000 in
set_option maxHeartbeats 1000000 in
theorem totals_zero2 (A1 A2 : Option Addr) (n1 c1 c2 : Nat) (w : World) (hn1 : n1 ≤ 1000) (hp : 0 < n1) :
    Calls Try.prog 8 #[.slice A1 n1 c1, .slice A2 0 c2] w fun e w' => e = .returned (.bool true) ∧ Below w.heap.size w w' := by
  have d1 : decide (1000 < (n1 : Int)) = false := decide_eq_false (by omega)
  have hm : (0 : Int) < n1 := by omega
  have hl0 := eql_same (a := 0) (b := 0) (ok_lit (by omega))
  rw [F_zero] at hl0
  go_enter Try.func8, Try.ntmps8
  go_wp2_with fail
  go_loopw [5, 6, 8, 31] (fun l m f i wr => l = .slice none 0 0 ∧ m = .slice none 0 0 ∧ f = .int .i64 0 ∧ i = .int .i64 0 ∧ wr = w.alloc (.cells #[.int .i64 0, .int .i64 0] 36)) (fun _ _ _ _ _ => 0)
  case atStart => exact ⟨rfl, rfl, rfl, rfl, rfl⟩
  case round =>
    obtain ⟨rfl, rfl, rfl, rfl, rfl⟩ := hrel
    go_wp2_with fail
    refine (total_nil 0 none _).mono ?_; rintro e w' ⟨rfl, rfl⟩
    go_wp2_with fail
    refine (total_nil 0 none _).mono ?_; rintro e w' ⟨rfl, rfl⟩
    go_wp2_with fail
    refine (awake_any _).mono ?_; rintro e w' ⟨rfl, rfl⟩
    go_wp2_with fail
    refine (same_zero _).mono ?_; rintro e w' ⟨rfl, kk, rfl⟩
    go_wp2_with fail
    go_ret
    refine ⟨rfl, ?_⟩
    repeat (first | with_reducible exact Below.refl _ _ | with_reducible refine Below.drew ?_ | with_reducible refine below_N ?_ | (with_reducible refine below_set ?_ ?_; · (dsimp only; (first | omega | (simp; done) | (simp; omega)))) | (with_reducible refine below_alloc ?_ ?_; · (first | omega | (simp; done) | (simp; omega))))

set_option maxRecDepth 100000 in
set_option maxHeartbeats 1000000 in
theorem totals_big1 (A1 A2 : Option Addr) (n1 n2 c1 c2 : Nat) (w : World) (h : 1000 < n1) :
    Calls Try.prog 8 #[.slice A1 n1 c1, .slice A2 n2 c2] w fun e w' => e = .returned (.bool true) ∧ Below w.heap.size w w' := by
  have d1 : decide (1000 < (n1 : Int)) = true := decide_eq_true (by omega)
  go_enter Try.func8, Try.ntmps8
  go_wp2_with (go_at_call 11; refine (awake_any _).mono ?_; rintro e w' ⟨rfl, rfl⟩)
  go_ret
  exact ⟨rfl, Below.refl _ _⟩

set_option maxRecDepth 100000 in
set_option maxHeartbeats 1000000 in
theorem totals_big2 (A1 A2 : Option Addr) (n1 n2 c1 c2 : Nat) (w : World) (h : n1 ≤ 1000) (h' : 1000 < n2) :
    Calls Try.prog 8 #[.slice A1 n1 c1, .slice A2 n2 c2] w fun e w' => e = .returned (.bool true) ∧ Below w.heap.size w w' := by
  have d1 : decide (1000 < (n1 : Int)) = false := decide_eq_false (by omega)
  have d2 : decide (1000 < (n2 : Int)) = true := decide_eq_true (by omega)
  go_enter Try.func8, Try.ntmps8
  go_wp2_with (go_at_call 11; refine (awake_any _).mono ?_; rintro e w' ⟨rfl, rfl⟩)
  go_ret
  exact ⟨rfl, Below.refl _ _⟩

/-- A slice of ints reads as a list. -/
def IntsAt (w : World) (A : Option Addr) (xs : List Int) : Prop := 0 < xs.length → ∃ b off, A = some ⟨b, off, none⟩ ∧ ∀ i (h : i < xs.length), w.cell? ⟨b, off + i, none⟩ = some (.int .i64 xs[i])

theorem sumTotals_walk (A1 : Option Addr) (n1 c1 : Nat) (xs : List Int) (A2 : Option Addr) (n2 c2 : Nat) (ys : List Int) (w : World) (h1 : xs.length = n1) (_m1 : n1 ≤ maxLen) (g1 : IntsAt w A1 xs) (h2 : ys.length = n2) (_m2 : n2 ≤ maxLen) (g2 : IntsAt w A2 ys) :
    Calls Try.prog 8 #[.slice A1 n1 c1, .slice A2 n2 c2] w fun e w' => e = .returned (.bool true) ∧ Below w.heap.size w w' := by
  by_cases b1 : 1000 < n1
  · exact totals_big1 A1 A2 n1 n2 c1 c2 w b1
  by_cases b2 : 1000 < n2
  · exact totals_big2 A1 A2 n1 n2 c1 c2 w (by omega) b2
  by_cases z1 : n1 = 0
  · subst z1; exact totals_zero1 A1 A2 n2 c1 c2 w (by omega)
  by_cases z2 : n2 = 0
  · subst z2; exact totals_zero2 A1 A2 n1 c1 c2 w (by omega) (by omega)
  obtain ⟨p, o, rfl, hp⟩ := g1 (by omega)
  obtain ⟨q, r, rfl, hq⟩ := g2 (by omega)
  have hl : (xs.zip ys).length = min n1 n2 := by rw [List.length_zip, h1, h2]
  have hx : ∀ i (h : i < (xs.zip ys).length), w.cell? ⟨p, o + i, none⟩ = some (.int .i64 ((xs.zip ys)[i]).1) := by
    intro i h
    rw [hp i (by omega)]
    simp
  have hy : ∀ i (h : i < (xs.zip ys).length), w.cell? ⟨q, r + i, none⟩ = some (.int .i64 ((xs.zip ys)[i]).2) := by
    intro i h
    rw [hq i (by omega)]
    simp
  by_cases hm : (n2 : Int) < n1
  · exact totals_gt p o n1 c1 q r n2 c2 (xs.zip ys) w (by omega) (by omega) (by omega) (by omega) (by omega) hm hx hy
  · exact totals_le p o n1 c1 q r n2 c2 (xs.zip ys) w (by omega) (by omega) (by omega) (by omega) (by omega) hm hx hy

end Go.Proofs.Ytlabnphdfdaadaa
