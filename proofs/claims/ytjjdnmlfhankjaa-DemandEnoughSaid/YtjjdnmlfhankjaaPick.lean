/- DemandEnough: pick's contract. -/
import Derived.Test.YtjjdnmlfhankjaaEnM
import Derived.Test.YtjjdnmlfhankjaaOpen5
namespace Go.Proofs.Ytjjdnmlfhankjaa
open Go.RowKit Flt
set_option linter.unusedVariables false

theorem tmod_nat (i n : Nat) : ((i : Int).tmod (n : Int)) = ((i % n : Nat) : Int) := by
  rw [Int.tmod_eq_emod_of_nonneg (by omega)]; rfl

theorem pick_any (A : Option Addr) (n c : Nat) (xs : List Int) (i : Nat) (w : World) (hn : xs.length = n) (hp : picksAt w A xs) :
    Calls Try.prog 23 #[.slice A n c, .int .i64 i] w fun e w' => (∃ k : Nat, k ≤ 255 ∧ e = .returned (.int .i64 k)) ∧ w' = w := by
  by_cases h0 : n = 0
  · subst h0
    go_enter Try.func23, Try.ntmps23
    go_wp2_with fail
    go_ret
    exact ⟨⟨0, by omega, rfl⟩, rfl⟩
  · obtain ⟨⟨b, off, rfl, hc⟩, hx⟩ := And.intro (hp.1 (by omega)) hp.2
    have hlt : i % n < xs.length := by rw [hn]; exact Nat.mod_lt _ (by omega)
    have hcell := hc (i % n) hlt
    have hb := hx xs[i % n] (List.getElem_mem hlt)
    have e := tmod_nat i n
    have hn0 : ¬ (n : Int) = 0 := by omega
    have hk := IntWalk.i64_in xs[i % n] (by omega)
    generalize xs[i % n] = x at *
    go_enter Try.func23, Try.ntmps23
    go_wp2_with fail
    go_ret
    refine ⟨⟨x.toNat, by omega, ?_⟩, rfl⟩
    rw [show ((x.toNat : Nat) : Int) = x by omega]
    first | rfl | simp [go_sem]

end Go.Proofs.Ytjjdnmlfhankjaa
