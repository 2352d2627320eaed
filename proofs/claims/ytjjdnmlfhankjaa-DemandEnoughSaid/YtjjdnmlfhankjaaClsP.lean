/- Kinds of blocks, as plain functions of numbers. No program here. -/
import Derived.Lib.Hide
namespace Go.Proofs.Ytjjdnmlfhankjaa

def smallT (c : Int) : Int := if c = 0 then 16 else if c = 1 then 32 else if c = 2 then 48 else if c = 3 then 64 else if c = 4 then 96 else if c = 5 then 128 else if c = 6 then 192 else 256
def unitT (c : Int) : Int := if c < 0 ∨ 23 < c then 0 else if c < 8 then smallT c else (c - 7) * 512
def kindT (n : Int) : Int := if n < 1 ∨ 8192 < n then -1 else if n ≤ 16 then 0 else if n ≤ 32 then 1 else if n ≤ 48 then 2 else if n ≤ 64 then 3 else if n ≤ 96 then 4 else if n ≤ 128 then 5 else if n ≤ 192 then 6 else if n ≤ 256 then 7 else 8 + (n - 1) / 512
def perT (c : Int) : Int := if c = 0 then 32 else if c = 1 then 16 else if c = 2 then 10 else if c = 3 then 8 else if c = 4 then 5 else if c = 5 then 4 else if c = 6 then 2 else if c = 7 then 2 else 0
def pagesT (c : Int) : Int := if c < 0 ∨ 23 < c then 0 else if c < 8 then 1 else c - 7
def alignT (c : Int) : Int := if c < 0 ∨ 23 < c then 0 else if c = 0 then 16 else if c = 1 then 32 else if c = 2 then 16 else if c = 3 then 64 else if c = 4 then 32 else if c = 5 then 128 else if c = 6 then 64 else if c = 7 then 256 else 512
def chargeT (n : Int) : Int := unitT (kindT n)

theorem small_cases {c : Int} (h0 : 0 ≤ c) (h7 : c ≤ 7) : (c = 0 ∧ smallT c = 16) ∨ (c = 1 ∧ smallT c = 32) ∨ (c = 2 ∧ smallT c = 48) ∨ (c = 3 ∧ smallT c = 64) ∨ (c = 4 ∧ smallT c = 96) ∨ (c = 5 ∧ smallT c = 128) ∨ (c = 6 ∧ smallT c = 192) ∨ (c = 7 ∧ smallT c = 256) := by
  rcases (by omega : c = 0 ∨ c = 1 ∨ c = 2 ∨ c = 3 ∨ c = 4 ∨ c = 5 ∨ c = 6 ∨ c = 7) with rfl | rfl | rfl | rfl | rfl | rfl | rfl | rfl <;> simp [smallT]

theorem unit_out {c : Int} (h : c < 0 ∨ 23 < c) : unitT c = 0 := by unfold unitT; rw [if_pos h]
theorem unit_small {c : Int} (h0 : 0 ≤ c) (h7 : c ≤ 7) : unitT c = smallT c := by unfold unitT; rw [if_neg (by omega), if_pos (by omega)]
theorem unit_run {c : Int} (h0 : 8 ≤ c) (h7 : c ≤ 23) : unitT c = (c - 7) * 512 := by unfold unitT; rw [if_neg (by omega), if_neg (by omega)]
theorem kind_out {n : Int} (h : n < 1 ∨ 8192 < n) : kindT n = -1 := by unfold kindT; rw [if_pos h]
theorem kind_run {n : Int} (h0 : 256 < n) (h : n ≤ 8192) : kindT n = 8 + (n - 1) / 512 := by
  unfold kindT
  rw [if_neg (by omega), if_neg (by omega), if_neg (by omega), if_neg (by omega), if_neg (by omega), if_neg (by omega), if_neg (by omega), if_neg (by omega), if_neg (by omega)]
/-- The kind of few bytes: the least one with room. -/
theorem kind_small {n : Int} (h0 : 1 ≤ n) (h : n ≤ 256) : 0 ≤ kindT n ∧ kindT n ≤ 7 ∧ n ≤ smallT (kindT n) ∧ ∀ c, 0 ≤ c → c < kindT n → smallT c < n := by
  have key : ∀ k : Int, 0 ≤ k → k ≤ 7 → kindT n = k → n ≤ smallT k → (∀ c, 0 ≤ c → c < k → smallT c < n) → 0 ≤ kindT n ∧ kindT n ≤ 7 ∧ n ≤ smallT (kindT n) ∧ ∀ c, 0 ≤ c → c < kindT n → smallT c < n := by
    intro k k0 k7 e h1 h2; rw [e]; exact ⟨k0, k7, h1, h2⟩
  have low : ∀ k : Int, k ≤ 7 → (1 ≤ k → smallT (k - 1) < n) → ∀ c, 0 ≤ c → c < k → smallT c < n := by
    intro k k7 hk c c0 ck
    have a := small_cases c0 (by omega)
    have b := small_cases (c := k - 1) (by omega) (by omega)
    have := hk (by omega)
    omega
  unfold kindT at key ⊢
  rw [if_neg (by omega : ¬ (n < 1 ∨ 8192 < n))] at key ⊢
  by_cases g0 : n ≤ 16
  · exact key 0 (by omega) (by omega) (by rw [if_pos g0]) (by simpa [smallT] using g0) (low 0 (by omega) (fun q => by omega))
  by_cases g1 : n ≤ 32
  · exact key 1 (by omega) (by omega) (by rw [if_neg g0, if_pos g1]) (by simpa [smallT] using g1) (low 1 (by omega) (fun _ => by simp [smallT]; omega))
  by_cases g2 : n ≤ 48
  · exact key 2 (by omega) (by omega) (by rw [if_neg g0, if_neg g1, if_pos g2]) (by simpa [smallT] using g2) (low 2 (by omega) (fun _ => by simp [smallT]; omega))
  by_cases g3 : n ≤ 64
  · exact key 3 (by omega) (by omega) (by rw [if_neg g0, if_neg g1, if_neg g2, if_pos g3]) (by simpa [smallT] using g3) (low 3 (by omega) (fun _ => by simp [smallT]; omega))
  by_cases g4 : n ≤ 96
  · exact key 4 (by omega) (by omega) (by rw [if_neg g0, if_neg g1, if_neg g2, if_neg g3, if_pos g4]) (by simpa [smallT] using g4) (low 4 (by omega) (fun _ => by simp [smallT]; omega))
  by_cases g5 : n ≤ 128
  · exact key 5 (by omega) (by omega) (by rw [if_neg g0, if_neg g1, if_neg g2, if_neg g3, if_neg g4, if_pos g5]) (by simpa [smallT] using g5) (low 5 (by omega) (fun _ => by simp [smallT]; omega))
  by_cases g6 : n ≤ 192
  · exact key 6 (by omega) (by omega) (by rw [if_neg g0, if_neg g1, if_neg g2, if_neg g3, if_neg g4, if_neg g5, if_pos g6]) (by simpa [smallT] using g6) (low 6 (by omega) (fun _ => by simp [smallT]; omega))
  · exact key 7 (by omega) (by omega) (by rw [if_neg g0, if_neg g1, if_neg g2, if_neg g3, if_neg g4, if_neg g5, if_neg g6, if_pos h]) (by simpa [smallT] using h) (low 7 (by omega) (fun _ => by simp [smallT]; omega))

/-- A kind that has room while the one ahead of it has none: it is the kind. -/
theorem kind_eq {n c : Int} (h0 : 1 ≤ n) (h : n ≤ 256) (c0 : 0 ≤ c) (c7 : c ≤ 7) (hc : n ≤ smallT c) (hl : 1 ≤ c → smallT (c - 1) < n) : kindT n = c := by
  obtain ⟨k0, k7, hk, hlow⟩ := kind_small h0 h
  rcases Int.lt_trichotomy (kindT n) c with g | g | g
  · have := hl (by omega)
    have a := small_cases k0 k7
    have b := small_cases (c := c - 1) (by omega) (by omega)
    omega
  · exact g
  · have := hlow c c0 g; omega

theorem per_cases {c : Int} (h0 : 0 ≤ c) (h7 : c ≤ 7) : (c = 0 ∧ perT c = 32) ∨ (c = 1 ∧ perT c = 16) ∨ (c = 2 ∧ perT c = 10) ∨ (c = 3 ∧ perT c = 8) ∨ (c = 4 ∧ perT c = 5) ∨ (c = 5 ∧ perT c = 4) ∨ (c = 6 ∧ perT c = 2) ∨ (c = 7 ∧ perT c = 2) := by
  rcases (by omega : c = 0 ∨ c = 1 ∨ c = 2 ∨ c = 3 ∨ c = 4 ∨ c = 5 ∨ c = 6 ∨ c = 7) with rfl | rfl | rfl | rfl | rfl | rfl | rfl | rfl <;> simp [perT]
theorem per_out {c : Int} (h : c < 0 ∨ 7 < c) : perT c = 0 := by
  unfold perT
  rw [if_neg (by omega), if_neg (by omega), if_neg (by omega), if_neg (by omega), if_neg (by omega), if_neg (by omega), if_neg (by omega), if_neg (by omega)]
theorem pages_out {c : Int} (h : c < 0 ∨ 23 < c) : pagesT c = 0 := by unfold pagesT; rw [if_pos h]
theorem pages_small {c : Int} (h0 : 0 ≤ c) (h7 : c ≤ 7) : pagesT c = 1 := by unfold pagesT; rw [if_neg (by omega), if_pos (by omega)]
theorem pages_run {c : Int} (h0 : 8 ≤ c) (h7 : c ≤ 23) : pagesT c = c - 7 := by unfold pagesT; rw [if_neg (by omega), if_neg (by omega)]
theorem align_out {c : Int} (h : c < 0 ∨ 23 < c) : alignT c = 0 := by unfold alignT; rw [if_pos h]
theorem align_run {c : Int} (h0 : 8 ≤ c) (h7 : c ≤ 23) : alignT c = 512 := by
  unfold alignT
  rw [if_neg (by omega), if_neg (by omega), if_neg (by omega), if_neg (by omega), if_neg (by omega), if_neg (by omega), if_neg (by omega), if_neg (by omega), if_neg (by omega)]

theorem unit_bound (c : Int) : 0 ≤ unitT c ∧ unitT c ≤ 8192 := by
  by_cases h : c < 0 ∨ 23 < c
  · rw [unit_out h]; omega
  · by_cases h7 : c ≤ 7
    · rw [unit_small (by omega) h7]
      have := small_cases (by omega : 0 ≤ c) h7
      omega
    · rw [unit_run (by omega) (by omega)]; omega

/-- Ahead of the kind of some bytes none has room; the kind has. -/
theorem unit_kind {n : Int} (h0 : 1 ≤ n) (h : n ≤ 8192) : 0 ≤ kindT n ∧ kindT n ≤ 23 ∧ n ≤ unitT (kindT n) ∧ ∀ c, 0 ≤ c → c < kindT n → unitT c < n := by
  by_cases h' : n ≤ 256
  · obtain ⟨k0, k7, hk, hl⟩ := kind_small h0 h'
    refine ⟨k0, by omega, by rw [unit_small k0 k7]; exact hk, fun c c0 ck => ?_⟩
    rw [unit_small c0 (by omega)]
    exact hl c c0 ck
  · rw [kind_run (by omega) h]
    refine ⟨by omega, by omega, by rw [unit_run (by omega) (by omega)]; omega, fun c c0 ck => ?_⟩
    by_cases c7 : c ≤ 7
    · rw [unit_small c0 c7]
      have := small_cases c0 c7
      omega
    · rw [unit_run (by omega) (by omega)]; omega

/-- The alignment, power by power. -/
def pows : List Nat := [1, 2, 4, 8, 16, 32, 64, 128, 256, 512]
theorem pow_dec : ∀ c ∈ List.range 24, ∀ a ∈ pows, (a : Int) ≤ alignT c → ((a : Int) < alignT c → a < 512 ∧ unitT c % (2 * a) = 0 ∧ 2 * a ∈ pows ∧ ((2 * a : Nat) : Int) ≤ alignT c) ∧ ((a : Int) = alignT c → a < 512 → ¬ unitT c % (2 * a) = 0) := by decide +kernel
theorem pow_step {c : Int} (h0 : 0 ≤ c) (h : c ≤ 23) {a : Nat} (ha : a ∈ pows) (hl : (a : Int) ≤ alignT c) :
    ((a : Int) < alignT c → a < 512 ∧ unitT c % (2 * a) = 0 ∧ 2 * a ∈ pows ∧ ((2 * a : Nat) : Int) ≤ alignT c) ∧ ((a : Int) = alignT c → a < 512 → ¬ unitT c % (2 * a) = 0) := by
  obtain ⟨k, rfl⟩ := Int.eq_ofNat_of_zero_le h0
  exact pow_dec k (List.mem_range.2 (by omega)) a ha hl
theorem pow_le {a : Nat} (ha : a ∈ pows) : 1 ≤ a ∧ a ≤ 512 := by
  have : ∀ a ∈ pows, 1 ≤ a ∧ a ≤ 512 := by decide
  exact this a ha
theorem align_pos {c : Int} (h0 : 0 ≤ c) (h : c ≤ 23) : 1 ≤ alignT c ∧ alignT c ≤ 512 := by
  have key : ∀ c ∈ List.range 24, 1 ≤ alignT c ∧ alignT c ≤ 512 := by decide +kernel
  obtain ⟨k, rfl⟩ := Int.eq_ofNat_of_zero_le h0
  exact key k (List.mem_range.2 (by omega))
end Go.Proofs.Ytjjdnmlfhankjaa
