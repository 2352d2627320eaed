/- Places of blocks, as plain functions of numbers. No program here. -/
import Derived.Test.YtbefbkjhfkdihaaClsP
namespace Go.Proofs.Ytbefbkjhfkdihaa

def slotsT (c : Int) : Int := if c < 0 ∨ 23 < c then 0 else 256 / pagesT c
def roomT (c : Int) : Int := if perT c < 1 then 1 else perT c
def thereT (c s k : Int) : Bool := decide (0 ≤ s) && decide (s < slotsT c) && decide (0 ≤ k) && decide (k < roomT c)
def posT (c s k : Int) : Int := 131072 * (c + 1) + s * (pagesT c * 512) + k * unitT c

theorem there_iff {c s k : Int} : thereT c s k = true ↔ 0 ≤ s ∧ s < slotsT c ∧ 0 ≤ k ∧ k < roomT c := by
  unfold thereT
  simp only [Bool.and_eq_true, decide_eq_true_eq, and_assoc]

theorem slots_out {c : Int} (h : c < 0 ∨ 23 < c) : slotsT c = 0 := by unfold slotsT; rw [if_pos h]
theorem slots_in {c : Int} (h0 : 0 ≤ c) (h : c ≤ 23) : slotsT c = 256 / pagesT c := by unfold slotsT; rw [if_neg (by omega)]
theorem room_per {c : Int} (h : 1 ≤ perT c) : roomT c = perT c := by unfold roomT; rw [if_neg (by omega)]
theorem room_one {c : Int} (h : perT c < 1) : roomT c = 1 := by unfold roomT; rw [if_pos h]

theorem kind_dec : ∀ c ∈ List.range 24, 16 ≤ unitT c ∧ unitT c ≤ 8192 ∧ 1 ≤ pagesT c ∧ pagesT c ≤ 16 ∧ 1 ≤ slotsT c ∧ slotsT c ≤ 256 ∧ slotsT c * (pagesT c * 512) ≤ 131072 ∧ 1 ≤ roomT c ∧ roomT c ≤ 32 ∧ roomT c * unitT c ≤ pagesT c * 512 ∧ alignT c ∣ 131072 ∧ alignT c ∣ pagesT c * 512 ∧ alignT c ∣ unitT c := by decide +kernel
theorem kind_facts {c : Int} (h0 : 0 ≤ c) (h : c ≤ 23) : 16 ≤ unitT c ∧ unitT c ≤ 8192 ∧ 1 ≤ pagesT c ∧ pagesT c ≤ 16 ∧ 1 ≤ slotsT c ∧ slotsT c ≤ 256 ∧ slotsT c * (pagesT c * 512) ≤ 131072 ∧ 1 ≤ roomT c ∧ roomT c ≤ 32 ∧ roomT c * unitT c ≤ pagesT c * 512 ∧ alignT c ∣ 131072 ∧ alignT c ∣ pagesT c * 512 ∧ alignT c ∣ unitT c := by
  obtain ⟨k, rfl⟩ := Int.eq_ofNat_of_zero_le h0
  exact kind_dec k (List.mem_range.2 (by omega))

theorem there_kind {c s k : Int} (h : thereT c s k = true) : 0 ≤ c ∧ c ≤ 23 := by
  have := there_iff.1 h
  by_cases g : c < 0 ∨ 23 < c
  · rw [slots_out g] at this; omega
  · omega

/-- Where a block lies: within its page run, and that within its region. -/
theorem pos_bounds {c s k : Int} (h : thereT c s k = true) :
    0 ≤ k * unitT c ∧ k * unitT c + unitT c ≤ pagesT c * 512 ∧ 0 ≤ s * (pagesT c * 512) ∧ s * (pagesT c * 512) + pagesT c * 512 ≤ 131072 := by
  obtain ⟨c0, c1⟩ := there_kind h
  obtain ⟨s0, s1, k0, k1⟩ := there_iff.1 h
  obtain ⟨u0, u1, p0, p1, n0, n1, n2, r0, r1, r2, _⟩ := kind_facts c0 c1
  have a1 : (k + 1) * unitT c ≤ roomT c * unitT c := Int.mul_le_mul_of_nonneg_right (by omega) (by omega)
  have a2 : (s + 1) * (pagesT c * 512) ≤ slotsT c * (pagesT c * 512) := Int.mul_le_mul_of_nonneg_right (by omega) (by omega)
  rw [Int.add_mul] at a1 a2
  refine ⟨Int.mul_nonneg k0 (by omega), by omega, Int.mul_nonneg s0 (by omega), by omega⟩

def kdT (a : Int) : Int := a / 131072 - 1
def slT (a : Int) : Int := a % 131072 / (pagesT (kdT a) * 512)
def nrT (a : Int) : Int := a % 131072 % (pagesT (kdT a) * 512) / unitT (kdT a)

/-- A block is found by its address. -/
theorem find_pos {c s k : Int} (h : thereT c s k = true) :
    131072 ≤ posT c s k ∧ posT c s k + unitT c ≤ 131072 * (c + 2) ∧ kdT (posT c s k) = c ∧ slT (posT c s k) = s ∧ nrT (posT c s k) = k := by
  obtain ⟨c0, c1⟩ := there_kind h
  obtain ⟨b0, b1, b2, b3⟩ := pos_bounds h
  obtain ⟨u0, u1, p0, p1, n0, n1, n2, r0, r1, r2, _⟩ := kind_facts c0 c1
  have hk : kdT (posT c s k) = c := by unfold kdT posT; omega
  have hm : posT c s k % 131072 = s * (pagesT c * 512) + k * unitT c := by unfold posT; omega
  have e1 : (s * (pagesT c * 512) + k * unitT c) / (pagesT c * 512) = s ∧ (s * (pagesT c * 512) + k * unitT c) % (pagesT c * 512) = k * unitT c := by
    refine (Int.ediv_emod_unique (by omega)).2 ⟨by rw [Int.mul_comm s]; omega, b0, by omega⟩
  refine ⟨by unfold posT; omega, by unfold posT; omega, hk, ?_, ?_⟩
  · unfold slT; rw [hk, hm]; exact e1.1
  · unfold nrT; rw [hk, hm, e1.2]
    exact Int.mul_ediv_cancel _ (by omega)

def foundB (a : Int) : Bool := decide (131072 ≤ a) && decide (a < 3276800) && thereT (kdT a) (slT a) (nrT a) && (posT (kdT a) (slT a) (nrT a) == a)

theorem found_iff {a : Int} : foundB a = true ↔ 131072 ≤ a ∧ a < 3276800 ∧ thereT (kdT a) (slT a) (nrT a) = true ∧ posT (kdT a) (slT a) (nrT a) = a := by
  unfold foundB
  simp only [Bool.and_eq_true, decide_eq_true_eq, beq_iff_eq, and_assoc]

theorem found_pos {c s k : Int} (h : thereT c s k = true) : foundB (posT c s k) = true := by
  obtain ⟨c0, c1⟩ := there_kind h
  obtain ⟨a0, a1, a2, a3, a4⟩ := find_pos h
  have u0 := (kind_facts c0 c1).1
  rw [found_iff, a2, a3, a4]
  exact ⟨a0, by omega, h, rfl⟩

theorem not_found {a c s k : Int} (hn : foundB a = false) (h : thereT c s k = true) : posT c s k ≠ a := by
  rintro rfl
  rw [found_pos h] at hn
  cases hn

theorem kd_bound {a : Int} (h0 : 131072 ≤ a) (h1 : a < 3276800) : 0 ≤ kdT a ∧ kdT a ≤ 23 := by unfold kdT; omega

/-- Blocks of a kind rise by slots and numbers. -/
theorem pos_lt {c s k t l : Int} (h : thereT c s k = true) (g : thereT c t l = true) (hl : s < t ∨ (s = t ∧ k < l)) : posT c s k + unitT c ≤ posT c t l := by
  obtain ⟨a0, a1, a2, a3⟩ := pos_bounds h
  obtain ⟨b0, b1, b2, b3⟩ := pos_bounds g
  obtain ⟨c0, c1⟩ := there_kind h
  obtain ⟨u0, u1, p0, p1, _⟩ := kind_facts c0 c1
  rcases hl with hl | ⟨rfl, hl⟩
  · have : (s + 1) * (pagesT c * 512) ≤ t * (pagesT c * 512) := Int.mul_le_mul_of_nonneg_right (by omega) (by omega)
    rw [Int.add_mul] at this
    unfold posT; omega
  · have : (k + 1) * unitT c ≤ l * unitT c := Int.mul_le_mul_of_nonneg_right (by omega) (by omega)
    rw [Int.add_mul] at this
    unfold posT; omega

theorem pos_apart {c s k d t l : Int} (h : thereT c s k = true) (g : thereT d t l = true) : (c = d ∧ s = t ∧ k = l) ∨ posT c s k + unitT c ≤ posT d t l ∨ posT d t l + unitT d ≤ posT c s k := by
  have a := find_pos h
  have b := find_pos g
  obtain ⟨a0, a1, a2, a3⟩ := pos_bounds h
  obtain ⟨b0, b1, b2, b3⟩ := pos_bounds g
  rcases Int.lt_trichotomy c d with e | rfl | e
  · right; left; unfold posT at *; omega
  · rcases (by omega : (s < t ∨ (s = t ∧ k < l)) ∨ (s = t ∧ k = l) ∨ (t < s ∨ (t = s ∧ l < k))) with e | e | e
    · exact .inr (.inl (pos_lt h g e))
    · exact .inl ⟨rfl, e⟩
    · exact .inr (.inr (pos_lt g h e))
  · right; right; unfold posT at *; omega

theorem pos_less {c s k t l : Int} (h : thereT c s k = true) (g : thereT c t l = true) : decide (posT c s k < posT c t l) = decide (s < t ∨ (s = t ∧ k < l)) := by
  obtain ⟨c0, c1⟩ := there_kind h
  have u0 := (kind_facts c0 c1).1
  by_cases e : s < t ∨ (s = t ∧ k < l)
  · have := pos_lt h g e
    rw [decide_eq_true e]; exact decide_eq_true (by omega)
  · rw [decide_eq_false e]
    apply decide_eq_false
    rcases (by omega : (s = t ∧ k = l) ∨ (t < s ∨ (t = s ∧ l < k))) with ⟨rfl, rfl⟩ | e'
    · omega
    · have := pos_lt g h e'; omega

theorem pos_align {c s k : Int} (h : thereT c s k = true) : posT c s k % alignT c = 0 := by
  obtain ⟨c0, c1⟩ := there_kind h
  obtain ⟨_, _, _, _, _, _, _, _, _, _, d0, d1, d2⟩ := kind_facts c0 c1
  apply Int.emod_eq_zero_of_dvd
  unfold posT
  exact Int.dvd_add (Int.dvd_add (Int.dvd_mul_of_dvd_left d0) (Int.dvd_mul_of_dvd_right d1)) (Int.dvd_mul_of_dvd_right d2)

end Go.Proofs.Ytbefbkjhfkdihaa
