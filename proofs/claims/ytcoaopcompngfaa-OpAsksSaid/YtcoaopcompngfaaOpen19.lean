/- An operation (a struct of four ints, a word of 64 bits and a string) handed in by value. -/
import Derived.Test.YtcoaopcompngfaaOpenS
import Derived.Test.YtcoaopcompngfaaProg
import Derived.KernelRfl
import Derived.ChangeArms
namespace Go.Proofs.Ytcoaopcompngfaa
open Go.ChangeShapes Go.WideShapes Go.Deep

/-- An operation's parts. -/
structure OpD where
  (K T N M H : Int) (s : ByteArray)
def OpD.v (z : OpD) : Value := .agg #[.int .i64 z.K, .int .i64 z.T, .int .i64 z.N, .int .i64 z.M, .int .u64 z.H, .string z.s]

theorem oneOp : ∃ fs, Try.prog.underlying 24 = some (.struct fs) ∧ oneCellFields Try.prog fs = true ∧ Try.prog.cellsOf 24 = fs.size ∧ fs.size = 6 ∧
    (∀ i, i < 4 → ∃ f, fs[i]? = some f ∧ f.type = 3) ∧ (∃ f, fs[4]? = some f ∧ f.type = 22) ∧ ∃ f, fs[5]? = some f ∧ f.type = 9 := by
  refine ⟨_, Try.underlying24, by kernel_rfl, by kernel_rfl, by kernel_rfl, ?_, ⟨_, rfl, rfl⟩, ⟨_, rfl, rfl⟩⟩
  intro i hi
  rcases (by omega : i = 0 ∨ i = 1 ∨ i = 2 ∨ i = 3) with rfl | rfl | rfl | rfl
  · exact ⟨_, rfl, rfl⟩
  · exact ⟨_, rfl, rfl⟩
  · exact ⟨_, rfl, rfl⟩
  · exact ⟨_, rfl, rfl⟩

theorem open_t24 {H : Type} {enc : TypeId × Value → H} {w : World} {base : Nat} {spare : Nat → Bool} {held : Bool} {r : Reach} {b0 : Nat} {v : Value} {d : DataW H} {p : List MemPlace}
    (hv : Value.okWide Try.prog w r b0 24 v) (h : DataW.Trod enc Try.prog w base spare held 24 v d p) : ∃ z : OpD, v = z.v ∧ z.s.size ≤ maxLen := by
  obtain ⟨fs, hs, hone, hC, h6, hi, ⟨f4, hf4, ht4⟩, ⟨f5, hf5, ht5⟩⟩ := oneOp
  obtain ⟨cs, rfl, hsz, hg⟩ := open_fields hs hone hC hv h
  obtain ⟨a, b, c, d, e, f, rfl⟩ := agg6 (hsz.trans h6)
  have one : ∀ {i : Nat} {x : Value}, i < 4 → #[a, b, c, d, e, f][i]? = some x → ∃ n, x = .int .i64 n := by
    intro i x hi4 hx
    obtain ⟨f, hf, ht⟩ := hi i hi4
    obtain ⟨c', y, n, hc, hy⟩ := hg i f hf
    rw [hx] at hc
    cases hc
    rw [ht] at hy
    obtain ⟨m, e0, _, _⟩ := DataW.trod_int Try.underlying3 hy
    simp at e0
    exact ⟨m, e0⟩
  obtain ⟨K, rfl⟩ := one (i := 0) (by omega) rfl
  obtain ⟨T, rfl⟩ := one (i := 1) (by omega) rfl
  obtain ⟨N, rfl⟩ := one (i := 2) (by omega) rfl
  obtain ⟨M, rfl⟩ := one (i := 3) (by omega) rfl
  clear one
  obtain ⟨c4, y4, n4, hc4, hy4⟩ := hg 4 f4 hf4
  obtain ⟨c5, y5, n5, hc5, hy5⟩ := hg 5 f5 hf5
  simp at hc4 hc5
  subst hc4 hc5
  rw [ht4] at hy4
  rw [ht5] at hy5
  obtain ⟨H, e4, _, _⟩ := DataW.trod_int Try.underlying22 hy4
  obtain ⟨s, e5, _, hl⟩ := DataW.trod_string Try.underlying9 hy5
  simp at e4 e5
  subst e4 e5
  exact ⟨⟨K, T, N, M, H, s⟩, rfl, hl⟩

end Go.Proofs.Ytcoaopcompngfaa
