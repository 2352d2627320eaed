/- The contracts of the reference's kinds (package garthref03) over this seat's translation. -/
import Derived.Test.YtjjdnmlfhankjaaClsP
import Derived.Test.YtjjdnmlfhankjaaBase
import Derived.Test.YtjjdnmlfhankjaaProg
import Derived.WalkKit
import Derived.WalkSpells
import Derived.WalkLawsBesides
import Derived.Lib.Hide
import Derived.KernelRfl
import Derived.LoopTactic
namespace Go.Proofs.Ytjjdnmlfhankjaa
open Go.RowKit

theorem below_seq {B : Nat} {a w w1 : World} (h : Below B a w) (hB : B ≤ w.heap.size) (k : Below w.heap.size w w1) : Below B a w1 := h.trans (k.mono hB)

theorem refUnit_lit (c : Int) (w : World) (h : c = 0 ∨ c = 1 ∨ c = 2 ∨ c = 3 ∨ c = 4 ∨ c = 5 ∨ c = 6 ∨ c = 7) :
    Calls Try.prog 24 #[.int .i64 c] w fun e w' => e = .returned (.int .i64 (unitT c)) ∧ Below w.heap.size w w' := by
  rcases h with rfl | rfl | rfl | rfl | rfl | rfl | rfl | rfl
  all_goals
    go_enter Try.func24, Try.ntmps24
    go_wp2
    go_ret
    exact ⟨rfl, (Below.refl _ _).alloc (Nat.le_refl _) _⟩

attribute [local irreducible] smallT unitT kindT perT pagesT alignT chargeT

theorem refUnit_any (c : Int) (w : World) :
    Calls Try.prog 24 #[.int .i64 c] w fun e w' => e = .returned (.int .i64 (unitT c)) ∧ Below w.heap.size w w' := by
  by_cases hc : c < 0 ∨ 23 < c
  · rw [unit_out hc]
    rcases hc with hc | hc
    · go_enter Try.func24, Try.ntmps24
      go_wp2
      go_ret
      exact ⟨rfl, (Below.refl _ _).alloc (Nat.le_refl _) _⟩
    · have h0 : 0 ≤ c := by omega
      go_enter Try.func24, Try.ntmps24
      go_wp2
      go_ret
      exact ⟨rfl, (Below.refl _ _).alloc (Nat.le_refl _) _⟩
  · by_cases h7 : c ≤ 7
    · exact refUnit_lit c w (by omega)
    · rw [unit_run (by omega) (by omega)]
      have h0 : 0 ≤ c := by omega
      have h1 : c ≤ 23 := by omega
      have h2 : ¬ c < 8 := by omega
      clear hc
      go_enter Try.func24, Try.ntmps24
      go_wp2
      go_ret
      exact ⟨rfl, (Below.refl _ _).alloc (Nat.le_refl _) _⟩

theorem refPages_any (c : Int) (w : World) :
    Calls Try.prog 20 #[.int .i64 c] w fun e w' => e = .returned (.int .i64 (pagesT c)) ∧ w' = w := by
  by_cases hc : c < 0 ∨ 23 < c
  · rw [pages_out hc]
    rcases hc with hc | hc
    · go_enter Try.func20, Try.ntmps20
      go_wp2
      go_ret
      exact ⟨rfl, rfl⟩
    · have h0 : 0 ≤ c := by omega
      go_enter Try.func20, Try.ntmps20
      go_wp2
      go_ret
      exact ⟨rfl, rfl⟩
  · have h0 : 0 ≤ c := by omega
    have h1 : c ≤ 23 := by omega
    clear hc
    by_cases h7 : c ≤ 7
    · rw [pages_small h0 h7]
      have hm : c - 7 < 1 := by omega
      go_enter Try.func20, Try.ntmps20
      go_wp2
      go_ret
      exact ⟨rfl, rfl⟩
    · rw [pages_run (by omega) h1]
      have hm : ¬ c - 7 < 1 := by omega
      go_enter Try.func20, Try.ntmps20
      go_wp2
      go_ret
      exact ⟨rfl, rfl⟩

end Go.Proofs.Ytjjdnmlfhankjaa
