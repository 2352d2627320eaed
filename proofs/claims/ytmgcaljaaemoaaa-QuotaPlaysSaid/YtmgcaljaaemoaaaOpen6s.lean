/- A slice of calls (structs of three ints) handed in. -/
import Derived.Test.YtmgcaljaaemoaaaOpen6
import Derived.ChangeSlices
namespace Go.Proofs.Ytmgcaljaaemoaaa
open Go.ChangeShapes Go.WideShapes Go.Deep

/-- The calls lie one behind the other, three cells each. -/
def opsAt (W : World) (A : Option Addr) (xs : List O6) : Prop := 0 < xs.length → ∃ b off, A = some ⟨b, off, none⟩ ∧ ∀ i (h : i < xs.length),
  W.cell? ⟨b, off + i * 3, none⟩ = some (.int .i64 xs[i].K) ∧ W.cell? ⟨b, off + i * 3 + 1, none⟩ = some (.int .i64 xs[i].B) ∧ W.cell? ⟨b, off + i * 3 + 2, none⟩ = some (.int .i64 xs[i].P)

theorem open_o6 {H : Type} {enc : TypeId × Value → H} {w : World} {base : Nat} {spare : Nat → Bool} {held : Bool} {fuel : Nat} {cs : List Value} {x : DataW H × List MemPlace}
    (h : DataW.trod enc Try.prog w base spare held fuel 23 cs = some x) : ∃ z : O6, cs = [.int .i64 z.K, .int .i64 z.B, .int .i64 z.P] := by
  obtain ⟨fs, hs, hone, hC, h6, hi⟩ := oneO6
  obtain ⟨xs, n, _, _, hcl, hlen, hg⟩ := DataW.trod_struct hs h
  have hc3 : cs.length = 3 := by rw [hcl, hC, h6]
  have one : ∀ (i : Nat), i < 3 → ∃ m, cs[i]? = some (.int .i64 m) := by
    intro i hi3
    obtain ⟨f, hf, ht⟩ := hi i hi3
    have h1 := hg i f hf
    obtain ⟨ho, hk⟩ := hone_of hone i f hf
    rw [ho, hk] at h1
    have e : (cs.drop i).take 1 = [cs[i]'(by omega)] := by
      rw [List.drop_eq_getElem_cons (show i < cs.length by omega)]
      rfl
    rw [e, List.getElem?_eq_getElem (by omega), ht] at h1
    obtain ⟨m, e0, _, _⟩ := DataW.trod_int Try.underlying3 h1
    simp at e0
    exact ⟨m, by rw [List.getElem?_eq_getElem (by omega), e0]⟩
  obtain ⟨K, h0⟩ := one 0 (by omega)
  obtain ⟨B, h1⟩ := one 1 (by omega)
  obtain ⟨P, h2⟩ := one 2 (by omega)
  match cs, hc3 with
  | [a, b, c], _ =>
    simp at h0 h1 h2
    exact ⟨⟨K, B, P⟩, by simp [h0, h1, h2]⟩

theorem open_slice_t38 {H : Type} {enc : TypeId × Value → H} {W : World} {base : Nat} {r : Reach} {b0 : Nat} {held : Bool} {v : Value} {d : DataW H} {p : List MemPlace}
    (hv : Value.okWide Try.prog W r b0 38 v) (h : DataW.Trod enc Try.prog W base (fun _ => true) held 38 v d p) :
    ∃ (A : Option Addr) (n c : Nat) (xs : List O6), v = .slice A n c ∧ xs.length = n ∧ n ≤ maxLen ∧ opsAt W A xs := by
  have ht : Try.prog.underlying 38 = some (.slice 23) := Try.underlying38
  have hC : Try.prog.cellsOf 23 = 3 := by kernel_rfl
  obtain ⟨A, n, c, rfl⟩ := okWide_slice ht hv
  obtain ⟨fuel, hf⟩ := h
  rcases DataW.trod_slice ht hf with ⟨hcs, _⟩ | ⟨a, len, cap, elems, rest, m, _, hcs, _, hb, hl, hm, hlen, hel, _⟩
  · simp [Value.cells] at hcs
    obtain ⟨rfl, rfl, rfl⟩ := hcs
    exact ⟨none, 0, 0, [], rfl, rfl, by unfold maxLen; omega, fun h => by simp at h⟩
  · simp [Value.cells] at hcs
    obtain ⟨rfl, rfl, rfl⟩ := hcs
    have each : ∀ i : Fin n, ∃ z : O6, W.cell? ((a.add (i.1 * 3)).add 0) = some (.int .i64 z.K) ∧ W.cell? ((a.add (i.1 * 3)).add 1) = some (.int .i64 z.B) ∧ W.cell? ((a.add (i.1 * 3)).add 2) = some (.int .i64 z.P) := by
      intro ⟨i, hi⟩
      have h1 := hel i hi
      rw [hC, List.getElem?_eq_getElem (by omega)] at h1
      obtain ⟨cs, hcells, htr⟩ := Option.bind_eq_some_iff.1 h1
      obtain ⟨_, hl3, hcell⟩ := World.cells?_some hcells
      obtain ⟨z, rfl⟩ := open_o6 htr
      exact ⟨z, hcell 0 (by omega), hcell 1 (by omega), hcell 2 (by omega)⟩
    obtain ⟨g, hg⟩ := Classical.axiomOfChoice each
    refine ⟨some a, n, c, List.ofFn g, rfl, by simp, by omega, fun hp => ?_⟩
    obtain ⟨b, off, spot⟩ := a
    have hp' : 0 < n := by simpa using hp
    have hspot : spot = none := by simpa [Addr.add] using World.cell?_spot (hg ⟨0, hp'⟩).1
    subst hspot
    refine ⟨b, off, rfl, fun i hi => ?_⟩
    have hi' : i < n := by simpa using hi
    have := hg ⟨i, hi'⟩
    simp only [add_plain, Nat.add_zero] at this
    simp only [List.getElem_ofFn]
    exact this

end Go.Proofs.Ytmgcaljaaemoaaa
