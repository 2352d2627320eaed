/- Asks (structs of two ints) and picks (bytes) handed in. -/
import Derived.Test.YtjjdnmlfhankjaaOpenS
import Derived.Test.YtjjdnmlfhankjaaProg
import Derived.KernelRfl
import Derived.ChangeArms
import Derived.ChangeSlices
import Derived.OpenShut
namespace Go.Proofs.Ytjjdnmlfhankjaa
open Go.ChangeShapes Go.WideShapes Go.Deep

/-- An ask's parts. -/
structure A5 where
  (N K : Int)

theorem oneA5 : ∃ fs, Try.prog.underlying 40 = some (.struct fs) ∧ oneCellFields Try.prog fs = true ∧ Try.prog.cellsOf 40 = fs.size ∧ fs.size = 2 ∧
    (∀ i, i < 2 → ∃ f, fs[i]? = some f ∧ f.type = 3) := by
  refine ⟨_, Try.underlying40, by kernel_rfl, by kernel_rfl, by kernel_rfl, ?_⟩
  intro i hi
  rcases (by omega : i = 0 ∨ i = 1) with rfl | rfl
  · exact ⟨_, rfl, rfl⟩
  · exact ⟨_, rfl, rfl⟩

/-- The asks lie one behind the other, two cells each. -/
def asksAt (W : World) (A : Option Addr) (xs : List A5) : Prop := 0 < xs.length → ∃ b off, A = some ⟨b, off, none⟩ ∧ ∀ i (h : i < xs.length),
  W.cell? ⟨b, off + i * 2, none⟩ = some (.int .i64 xs[i].N) ∧ W.cell? ⟨b, off + i * 2 + 1, none⟩ = some (.int .i64 xs[i].K)

theorem open_a5 {H : Type} {enc : TypeId × Value → H} {w : World} {base : Nat} {spare : Nat → Bool} {held : Bool} {fuel : Nat} {cs : List Value} {x : DataW H × List MemPlace}
    (h : DataW.trod enc Try.prog w base spare held fuel 40 cs = some x) : ∃ z : A5, cs = [.int .i64 z.N, .int .i64 z.K] := by
  obtain ⟨fs, hs, hone, hC, h6, hi⟩ := oneA5
  obtain ⟨xs, n, _, _, hcl, hlen, hg⟩ := DataW.trod_struct hs h
  have hc3 : cs.length = 2 := by rw [hcl, hC, h6]
  have one : ∀ (i : Nat), i < 2 → ∃ m, cs[i]? = some (.int .i64 m) := by
    intro i hi3
    obtain ⟨f, hf, ht⟩ := hi i hi3
    have h1 := hg i f hf
    obtain ⟨ho, hk⟩ := hone_of hone i f hf
    rw [ho, hk] at h1
    have e : (cs.drop i).take 1 = [cs[i]'(by omega)] := by
      rw [List.drop_eq_getElem_cons (show i < cs.length by omega)]
      rfl
    rw [e, List.getElem?_eq_getElem (by omega), ht] at h1
    obtain ⟨m, e0, _, _⟩ := DataW.trod_int Try.underlying3 h1
    simp at e0
    exact ⟨m, by rw [List.getElem?_eq_getElem (by omega), e0]⟩
  obtain ⟨N, h0⟩ := one 0 (by omega)
  obtain ⟨K, h1⟩ := one 1 (by omega)
  match cs, hc3 with
  | [a, b], _ =>
    simp at h0 h1
    exact ⟨⟨N, K⟩, by simp [h0, h1]⟩

theorem open_slice_t34 {H : Type} {enc : TypeId × Value → H} {W : World} {base : Nat} {r : Reach} {b0 : Nat} {held : Bool} {v : Value} {d : DataW H} {p : List MemPlace}
    (hv : Value.okWide Try.prog W r b0 34 v) (h : DataW.Trod enc Try.prog W base (fun _ => true) held 34 v d p) :
    ∃ (A : Option Addr) (n c : Nat) (xs : List A5), v = .slice A n c ∧ xs.length = n ∧ n ≤ maxLen ∧ asksAt W A xs := by
  have ht : Try.prog.underlying 34 = some (.slice 40) := Try.underlying34
  have hC : Try.prog.cellsOf 40 = 2 := by kernel_rfl
  obtain ⟨A, n, c, rfl⟩ := okWide_slice ht hv
  obtain ⟨fuel, hf⟩ := h
  rcases DataW.trod_slice ht hf with ⟨hcs, _⟩ | ⟨a, len, cap, elems, rest, m, _, hcs, _, hb, hl, hm, hlen, hel, _⟩
  · simp [Value.cells] at hcs
    obtain ⟨rfl, rfl, rfl⟩ := hcs
    exact ⟨none, 0, 0, [], rfl, rfl, by unfold maxLen; omega, fun h => by simp at h⟩
  · simp [Value.cells] at hcs
    obtain ⟨rfl, rfl, rfl⟩ := hcs
    have each : ∀ i : Fin n, ∃ z : A5, W.cell? ((a.add (i.1 * 2)).add 0) = some (.int .i64 z.N) ∧ W.cell? ((a.add (i.1 * 2)).add 1) = some (.int .i64 z.K) := by
      intro ⟨i, hi⟩
      have h1 := hel i hi
      rw [hC, List.getElem?_eq_getElem (by omega)] at h1
      obtain ⟨cs, hcells, htr⟩ := Option.bind_eq_some_iff.1 h1
      obtain ⟨_, hl3, hcell⟩ := World.cells?_some hcells
      obtain ⟨z, rfl⟩ := open_a5 htr
      exact ⟨z, hcell 0 (by omega), hcell 1 (by omega)⟩
    obtain ⟨g, hg⟩ := Classical.axiomOfChoice each
    refine ⟨some a, n, c, List.ofFn g, rfl, by simp, by omega, fun hp => ?_⟩
    obtain ⟨b, off, spot⟩ := a
    have hp' : 0 < n := by simpa using hp
    have hspot : spot = none := by simpa [Addr.add] using World.cell?_spot (hg ⟨0, hp'⟩).1
    subst hspot
    refine ⟨b, off, rfl, fun i hi => ?_⟩
    have hi' : i < n := by simpa using hi
    have := hg ⟨i, hi'⟩
    simp only [add_plain, Nat.add_zero] at this
    simp only [List.getElem_ofFn]
    exact this

/-- The picks lie one behind the other. -/
def picksAt (W : World) (A : Option Addr) (xs : List Int) : Prop := (0 < xs.length → ∃ b off, A = some ⟨b, off, none⟩ ∧ ∀ i (h : i < xs.length), W.cell? ⟨b, off + i, none⟩ = some (.int .u8 xs[i])) ∧ ∀ x ∈ xs, 0 ≤ x ∧ x ≤ 255

section
variable {H : Type} {enc : TypeId × Value → H} {P : Program}
theorem open_slice_u8 {W : World} {base : Nat} {r : Reach} {b0 : Nat} {held : Bool} {t e : TypeId} {v : Value} {d : DataW H} {p : List MemPlace} (ht : P.underlying t = some (.slice e)) (he : P.underlying e = some (.int .u8)) (hc : P.cellsOf e = 1)
    (hv : Value.okWide P W r b0 t v) (h : DataW.Trod enc P W base (fun _ => true) held t v d p) :
    ∃ (A : Option Addr) (n c : Nat) (xs : List Int), v = .slice A n c ∧ xs.length = n ∧ n ≤ maxLen ∧ picksAt W A xs := by
  obtain ⟨A, n, c, rfl⟩ := okWide_slice ht hv
  obtain ⟨fuel, hf⟩ := h
  rcases open_ints ht he hc hf with ⟨hcs, _⟩ | ⟨a, len, cap, zs, hcs, _, hl, hm, hz, _, hcell, hw⟩
  · simp [Value.cells] at hcs
    obtain ⟨rfl, rfl, rfl⟩ := hcs
    exact ⟨none, 0, 0, [], rfl, rfl, by unfold maxLen; omega, fun h => by simp at h, fun x hx => by cases hx⟩
  · simp [Value.cells] at hcs
    obtain ⟨rfl, rfl, rfl⟩ := hcs
    simp only [if_true] at hz
    refine ⟨some a, n, c, zs.take n, rfl, by simp; omega, by omega, fun hp => ?_, fun x hx => ?_⟩
    · have hp' : 0 < zs.length := by simp at hp; omega
      obtain ⟨b, off, rfl, hc'⟩ := ints_at hcell hp'
      refine ⟨b, off, rfl, fun i hi => ?_⟩
      have hi' : i < zs.length := by simp at hi; omega
      rw [hc' i hi']
      simp [List.getElem_take, List.getD_eq_getElem?_getD, hi']
    · have := hw x (List.mem_of_mem_take hx)
      simp [Lit.wf, IntKind.min, IntKind.max, IntKind.signed, IntKind.bits] at this
      omega
end

end Go.Proofs.Ytjjdnmlfhankjaa
