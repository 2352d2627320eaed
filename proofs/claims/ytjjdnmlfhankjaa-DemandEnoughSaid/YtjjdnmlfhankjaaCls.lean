/- The contracts of package class over this seat's translation. -/
import Derived.Test.YtjjdnmlfhankjaaProg
import Derived.Test.YtjjdnmlfhankjaaClsP
import Derived.WalkKit
import Derived.WalkSpells
import Derived.WalkLawsBesides
import Derived.Lib.Hide
import Derived.KernelRfl
import Derived.WalkMore
import Derived.ScopeJumps
import Derived.IntWalk
namespace Go.Proofs.Ytjjdnmlfhankjaa
open Go.RowKit

attribute [local irreducible] smallT unitT kindT perT pagesT alignT chargeT

theorem small_any (c : Int) (w : World) (h0 : 0 ≤ c) (h7 : c ≤ 7) :
    Calls Try.prog 31 #[.int .i64 c] w fun e w' => e = .returned (.int .i64 (smallT c)) ∧ w' = w := by
  rcases small_cases h0 h7 with ⟨rfl, e⟩ | ⟨rfl, e⟩ | ⟨rfl, e⟩ | ⟨rfl, e⟩ | ⟨rfl, e⟩ | ⟨rfl, e⟩ | ⟨rfl, e⟩ | ⟨rfl, e⟩
  all_goals
    rw [e]
    clear e h0 h7
    go_enter Try.func31, Try.ntmps31
    go_wp2
    go_ret
    exact ⟨rfl, rfl⟩

end Go.Proofs.Ytjjdnmlfhankjaa
