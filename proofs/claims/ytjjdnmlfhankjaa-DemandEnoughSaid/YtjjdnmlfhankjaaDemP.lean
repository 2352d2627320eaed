/- What a quota takes, as plain functions of numbers. No program here. -/
import Derived.Test.YtjjdnmlfhankjaaClsP
namespace Go.Proofs.Ytjjdnmlfhankjaa

def mayB (q : Int) : Bool := decide (1 ≤ q) && decide (q ≤ 65536)
theorem may_iff {q : Int} : mayB q = true ↔ 1 ≤ q ∧ q ≤ 65536 := by unfold mayB; simp only [Bool.and_eq_true, decide_eq_true_eq]
theorem may_not {q : Int} (h : mayB q = false) : q < 1 ∨ 65536 < q := by
  have : ¬ (1 ≤ q ∧ q ≤ 65536) := fun g => by rw [may_iff.2 g] at h; cases h
  omega

/-- The pages of a small kind. -/
def byT (c q : Int) : Int := if perT c = 0 ∨ mayB q = false then 0 else (q / unitT c + perT c - 1) / perT c
def runsT (q : Int) : Int := if mayB q = true then q / 512 else 0
def sumBy (q : Int) : Nat → Int
  | 0 => 0
  | k + 1 => sumBy q k + byT k q
def demT (q : Int) : Int := sumBy q 8 + runsT q

theorem by_zero {c q : Int} (h : perT c = 0 ∨ mayB q = false) : byT c q = 0 := by unfold byT; rw [if_pos h]
theorem by_in {c q : Int} (h0 : 0 ≤ c) (h1 : c ≤ 7) (h : mayB q = true) : byT c q = (q / unitT c + perT c - 1) / perT c := by
  unfold byT; rw [if_neg]
  rintro (g | g)
  · have := per_cases h0 h1; omega
  · rw [h] at g; cases g
theorem per_pos {c : Int} (h0 : 0 ≤ c) (h1 : c ≤ 7) : 2 ≤ perT c ∧ perT c ≤ 32 := by
  have := per_cases h0 h1; omega
theorem per_unit {c : Int} (h0 : 0 ≤ c) (h1 : c ≤ 7) : (perT c = 32 ∧ unitT c = 16) ∨ (perT c = 16 ∧ unitT c = 32) ∨ (perT c = 10 ∧ unitT c = 48) ∨ (perT c = 8 ∧ unitT c = 64) ∨ (perT c = 5 ∧ unitT c = 96) ∨ (perT c = 4 ∧ unitT c = 128) ∨ (perT c = 2 ∧ unitT c = 192) ∨ (perT c = 2 ∧ unitT c = 256) := by
  rcases (by omega : c = 0 ∨ c = 1 ∨ c = 2 ∨ c = 3 ∨ c = 4 ∨ c = 5 ∨ c = 6 ∨ c = 7) with rfl | rfl | rfl | rfl | rfl | rfl | rfl | rfl <;> decide

/-- How By stands to the number of blocks: so many pages are enough, and one fewer are not. -/
theorem by_ceil {c q : Int} (h0 : 0 ≤ c) (h1 : c ≤ 7) (h : mayB q = true) : 0 ≤ byT c q ∧ byT c q ≤ 4096 ∧ q / unitT c ≤ byT c q * perT c ∧ (byT c q - 1) * perT c < q / unitT c + (if byT c q = 0 then perT c else 0) ∧ (byT c q = 0 → q / unitT c = 0) ∧ byT c q * perT c * unitT c ≤ 2097152 := by
  obtain ⟨a, b⟩ := may_iff.1 h
  rw [by_in h0 h1 h]
  rcases per_unit h0 h1 with ⟨e, f⟩ | ⟨e, f⟩ | ⟨e, f⟩ | ⟨e, f⟩ | ⟨e, f⟩ | ⟨e, f⟩ | ⟨e, f⟩ | ⟨e, f⟩ <;> rw [e, f] <;> refine ⟨by omega, by omega, by omega, ?_, by omega, by omega⟩ <;> split <;> omega

theorem by_bound (c q : Int) : 0 ≤ byT c q ∧ byT c q ≤ 4096 := by
  by_cases hc : 0 ≤ c ∧ c ≤ 7
  · cases h : mayB q with
    | true => have := by_ceil hc.1 hc.2 h; omega
    | false => rw [by_zero (.inr h)]; omega
  · rw [by_zero (.inl (per_out (by omega)))]; omega

theorem by_mono {c a b : Int} (h0 : 0 ≤ c) (h1 : c ≤ 7) (ha : mayB a = true) (hb : mayB b = true) (hab : a ≤ b) : byT c a ≤ byT c b := by
  rw [by_in h0 h1 ha, by_in h0 h1 hb]
  rcases per_unit h0 h1 with ⟨e, f⟩ | ⟨e, f⟩ | ⟨e, f⟩ | ⟨e, f⟩ | ⟨e, f⟩ | ⟨e, f⟩ | ⟨e, f⟩ | ⟨e, f⟩ <;> rw [e, f] <;> omega

theorem sumBy_bound (q : Int) : ∀ k : Nat, k ≤ 8 → 0 ≤ sumBy q k ∧ sumBy q k ≤ 4096 * k
  | 0, _ => by unfold sumBy; omega
  | k + 1, h => by
    have := sumBy_bound q k (by omega)
    have := by_bound k q
    unfold sumBy
    omega
theorem sumBy_mono {a b : Int} (ha : mayB a = true) (hb : mayB b = true) (hab : a ≤ b) : ∀ k : Nat, k ≤ 8 → sumBy a k ≤ sumBy b k
  | 0, _ => by unfold sumBy; omega
  | k + 1, h => by
    have := sumBy_mono ha hb hab k (by omega)
    have := by_mono (c := k) (by omega) (by omega) ha hb hab
    unfold sumBy
    omega
theorem by_le_sum (q : Int) : ∀ k : Nat, k ≤ 8 → ∀ c : Nat, c < k → byT c q ≤ sumBy q k
  | 0, _, c, hc => by omega
  | k + 1, h, c, hc => by
    have := sumBy_bound q k (by omega)
    have := by_bound k q
    unfold sumBy
    by_cases e : c = k
    · subst e; omega
    · have := by_le_sum q k (by omega) c (by omega); omega
theorem runs_bound (q : Int) : 0 ≤ runsT q ∧ runsT q ≤ 128 := by
  unfold runsT
  split
  · rename_i h; have := may_iff.1 h; omega
  · omega
theorem dem_bound (q : Int) : 0 ≤ demT q ∧ demT q ≤ 32896 := by
  have := sumBy_bound q 8 (by omega)
  have := runs_bound q
  unfold demT; omega
theorem dem_mono {a b : Int} (ha : mayB a = true) (hb : mayB b = true) (hab : a ≤ b) : demT a ≤ demT b := by
  have := sumBy_mono ha hb hab 8 (by omega)
  unfold demT runsT
  rw [if_pos ha, if_pos hb]
  omega
theorem by_le_dem {c q : Int} (h0 : 0 ≤ c) (h1 : c ≤ 7) : byT c q ≤ demT q := by
  have := by_le_sum q 8 (by omega) c.toNat (by omega)
  rw [show ((c.toNat : Nat) : Int) = c by omega] at this
  have := runs_bound q
  unfold demT; omega
theorem runs_in {q : Int} (h : mayB q = true) : runsT q = q / 512 := by unfold runsT; rw [if_pos h]
theorem runs_out {q : Int} (h : mayB q = false) : runsT q = 0 := by unfold runsT; rw [if_neg (by rw [h]; decide)]
theorem sumBy_out {q : Int} (h : mayB q = false) : ∀ k, sumBy q k = 0
  | 0 => rfl
  | k + 1 => by unfold sumBy; rw [sumBy_out h k, by_zero (.inr h)]; omega
theorem dem_out {q : Int} (h : mayB q = false) : demT q = 0 := by unfold demT; rw [sumBy_out h, runs_out h]; rfl

end Go.Proofs.Ytjjdnmlfhankjaa
