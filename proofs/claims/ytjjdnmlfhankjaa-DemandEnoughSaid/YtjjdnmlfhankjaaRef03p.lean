/- The contract of garthref03.Per over this seat's translation. -/
import Derived.Test.YtjjdnmlfhankjaaRef03
namespace Go.Proofs.Ytjjdnmlfhankjaa
open Go.RowKit

attribute [local irreducible] smallT unitT kindT perT pagesT alignT chargeT


theorem refPer_any (c : Int) (w : World) :
    Calls Try.prog 22 #[.int .i64 c] w fun e w' => e = .returned (.int .i64 (perT c)) ∧ Below w.heap.size w w' := by
  by_cases hc : c < 0 ∨ 7 < c
  · rw [per_out hc]
    rcases hc with hc | hc
    · go_enter Try.func22, Try.ntmps22
      go_wp2
      go_ret
      exact ⟨rfl, Below.refl _ _⟩
    · have h0 : 0 ≤ c := by omega
      go_enter Try.func22, Try.ntmps22
      go_wp2
      go_ret
      exact ⟨rfl, Below.refl _ _⟩
  · rcases per_cases (by omega : 0 ≤ c) (by omega : c ≤ 7) with ⟨rfl, e⟩ | ⟨rfl, e⟩ | ⟨rfl, e⟩ | ⟨rfl, e⟩ | ⟨rfl, e⟩ | ⟨rfl, e⟩ | ⟨rfl, e⟩ | ⟨rfl, e⟩
    all_goals
      rw [e]
      clear hc e
      go_enter Try.func22, Try.ntmps22
      go_wp2
      go_ret
      exact ⟨rfl, (Below.refl _ _).alloc (Nat.le_refl _) _⟩

end Go.Proofs.Ytjjdnmlfhankjaa
