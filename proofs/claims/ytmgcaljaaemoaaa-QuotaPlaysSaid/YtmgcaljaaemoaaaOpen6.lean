/- A call of a quota (a struct of three ints) handed in by value. -/
import Derived.Test.YtmgcaljaaemoaaaOpenS
import Derived.Test.YtmgcaljaaemoaaaProg
import Derived.KernelRfl
import Derived.ChangeArms
namespace Go.Proofs.Ytmgcaljaaemoaaa
open Go.ChangeShapes Go.WideShapes Go.Deep

/-- A call's parts. -/
structure O6 where
  (K B P : Int)
def O6.v (z : O6) : Value := .agg #[.int .i64 z.K, .int .i64 z.B, .int .i64 z.P]

theorem agg3 {cs : Array Value} (h : cs.size = 3) : ∃ a b c, cs = #[a, b, c] := by
  obtain ⟨l⟩ := cs
  match l, h with
  | [a, b, c], _ => exact ⟨a, b, c, rfl⟩

theorem oneO6 : ∃ fs, Try.prog.underlying 23 = some (.struct fs) ∧ oneCellFields Try.prog fs = true ∧ Try.prog.cellsOf 23 = fs.size ∧ fs.size = 3 ∧
    (∀ i, i < 3 → ∃ f, fs[i]? = some f ∧ f.type = 3) := by
  refine ⟨_, Try.underlying23, by kernel_rfl, by kernel_rfl, by kernel_rfl, ?_⟩
  intro i hi
  rcases (by omega : i = 0 ∨ i = 1 ∨ i = 2) with rfl | rfl | rfl
  · exact ⟨_, rfl, rfl⟩
  · exact ⟨_, rfl, rfl⟩
  · exact ⟨_, rfl, rfl⟩

theorem open_t23 {H : Type} {enc : TypeId × Value → H} {w : World} {base : Nat} {spare : Nat → Bool} {held : Bool} {r : Reach} {b0 : Nat} {v : Value} {d : DataW H} {p : List MemPlace}
    (hv : Value.okWide Try.prog w r b0 23 v) (h : DataW.Trod enc Try.prog w base spare held 23 v d p) : ∃ z : O6, v = z.v ∧ True := by
  obtain ⟨fs, hs, hone, hC, h6, hi⟩ := oneO6
  obtain ⟨cs, rfl, hsz, hg⟩ := open_fields hs hone hC hv h
  obtain ⟨a, b, c, rfl⟩ := agg3 (hsz.trans h6)
  have one : ∀ {i : Nat} {x : Value}, i < 3 → #[a, b, c][i]? = some x → ∃ n, x = .int .i64 n := by
    intro i x hi4 hx
    obtain ⟨f, hf, ht⟩ := hi i hi4
    obtain ⟨c', y, n, hc, hy⟩ := hg i f hf
    rw [hx] at hc
    cases hc
    rw [ht] at hy
    obtain ⟨m, e0, _, _⟩ := DataW.trod_int Try.underlying3 hy
    simp at e0
    exact ⟨m, e0⟩
  obtain ⟨K, rfl⟩ := one (i := 0) (by omega) rfl
  obtain ⟨T, rfl⟩ := one (i := 1) (by omega) rfl
  obtain ⟨N, rfl⟩ := one (i := 2) (by omega) rfl
  exact ⟨⟨K, T, N⟩, rfl, trivial⟩

end Go.Proofs.Ytmgcaljaaemoaaa
