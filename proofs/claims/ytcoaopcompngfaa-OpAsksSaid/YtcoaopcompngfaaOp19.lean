/- The contracts of op.Check, op.Admin and garthref19.Right over this seat's translation. -/
import Derived.Test.YtcoaopcompngfaaProg
import Derived.Test.YtcoaopcompngfaaMore
import Derived.WalkKit
import Derived.WalkSpells
import Derived.WalkLawsBesides
import Derived.Lib.Hide
import Derived.KernelRfl
import Derived.Deep.QuietTactic
import Derived.BigQuiet
namespace Go.Proofs.Ytcoaopcompngfaa
open Go.RowKit

/-- An operation's cells. -/
def opV (K T N M H : Int) (s : ByteArray) : Value := .agg #[.int .i64 K, .int .i64 T, .int .i64 N, .int .i64 M, .int .u64 H, .string s]

def rightB (K T : Int) (s : ByteArray) : Bool := decide (1 ≤ K) && decide (K ≤ 11) && decide (0 ≤ T) && decide (T ≤ 7) && decide (s.size ≤ 8192) && (decide (K = 10) || decide (s.size = 0))

theorem right_iff {K T : Int} {s : ByteArray} : rightB K T s = true ↔ 1 ≤ K ∧ K ≤ 11 ∧ 0 ≤ T ∧ T ≤ 7 ∧ s.size ≤ 8192 ∧ (K = 10 ∨ s.size = 0) := by
  unfold rightB
  simp only [Bool.and_eq_true, Bool.or_eq_true, decide_eq_true_eq, and_assoc]

theorem right_not {K T : Int} {s : ByteArray} (h : rightB K T s = false) : K < 1 ∨ (1 ≤ K ∧ 11 < K) ∨ ((1 ≤ K ∧ K ≤ 11) ∧ T < 0) ∨ ((1 ≤ K ∧ K ≤ 11) ∧ 0 ≤ T ∧ 7 < T) ∨ ((1 ≤ K ∧ K ≤ 11 ∧ 0 ≤ T ∧ T ≤ 7) ∧ 8192 < s.size) ∨ ((1 ≤ K ∧ K ≤ 11 ∧ 0 ≤ T ∧ T ≤ 7) ∧ s.size ≤ 8192 ∧ 0 < s.size ∧ K ≠ 10) := by
  have : ¬ (1 ≤ K ∧ K ≤ 11 ∧ 0 ≤ T ∧ T ≤ 7 ∧ s.size ≤ 8192 ∧ (K = 10 ∨ s.size = 0)) := fun q => by rw [right_iff.2 q] at h; cases h
  omega

theorem empty_of {s : ByteArray} (h : s.size = 0) : s.toList.isEmpty = true ∧ s.toList = [] := by
  have : s.toList = [] := by
    rw [ByteArray.toList_eq]
    apply List.eq_nil_of_length_eq_zero
    rw [Array.length_toList]
    exact h
  exact ⟨by rw [this]; rfl, this⟩
theorem full_of {s : ByteArray} (h : 0 < s.size) : s.toList.isEmpty = false ∧ s.toList ≠ [] := by
  have : s.toList ≠ [] := by
    rw [ByteArray.toList_eq]
    intro e
    have := congrArg List.length e
    rw [Array.length_toList] at this
    exact absurd this (by show s.size ≠ 0; omega)
  exact ⟨by simpa using this, this⟩

theorem opCheck_yes (K T N M H : Int) (s : ByteArray) (w : World) (hs : s.size ≤ maxLen) (h : rightB K T s = true) :
    Calls Try.prog 7 #[.agg #[.int .i64 K, .int .i64 T, .int .i64 N, .int .i64 M, .int .u64 H, .string s]] w fun e w' => e = .returned (.int .i64 0) ∧ Below w.heap.size w w' := by
  unfold maxLen at hs
  obtain ⟨k0, k1, t0, t1, s1, g⟩ := right_iff.1 h
  clear h
  by_cases hz : s.size = 0
  · have z1 : ¬ 0 < s.size := by omega
    clear g hz
    go_enter Try.func7, Try.ntmps7
    go_wp2
    go_ret
    exact ⟨rfl, below_alloc (Nat.le_refl _) (Below.refl _ _)⟩
  · have z1 : 0 < s.size := by omega
    have z2 : (K != 10) = false := by rw [bne_eq_false_iff_eq]; omega
    clear g hz
    go_enter Try.func7, Try.ntmps7
    go_wp2
    go_ret
    exact ⟨rfl, below_alloc (Nat.le_refl _) (Below.refl _ _)⟩

theorem opCheck_no (K T N M H : Int) (s : ByteArray) (w : World) (hs : s.size ≤ maxLen) (h : rightB K T s = false) :
    Calls Try.prog 7 #[.agg #[.int .i64 K, .int .i64 T, .int .i64 N, .int .i64 M, .int .u64 H, .string s]] w fun e w' => e = .returned (.int .i64 1) ∧ Below w.heap.size w w' := by
  unfold maxLen at hs
  rcases right_not h with h | h | h | h | h | ⟨h, g⟩
  · go_enter Try.func7, Try.ntmps7
    go_wp2
    go_ret
    exact ⟨rfl, below_alloc (Nat.le_refl _) (Below.refl _ _)⟩
  · obtain ⟨a, b⟩ := h
    go_enter Try.func7, Try.ntmps7
    go_wp2
    go_ret
    exact ⟨rfl, below_alloc (Nat.le_refl _) (Below.refl _ _)⟩
  · obtain ⟨⟨a, b⟩, c⟩ := h
    go_enter Try.func7, Try.ntmps7
    go_wp2
    go_ret
    exact ⟨rfl, below_alloc (Nat.le_refl _) (Below.refl _ _)⟩
  · obtain ⟨⟨a, b⟩, c, d⟩ := h
    have d' : 8 ≤ T := by omega
    go_enter Try.func7, Try.ntmps7
    go_wp2
    go_ret
    exact ⟨rfl, below_alloc (Nat.le_refl _) (Below.refl _ _)⟩
  · obtain ⟨⟨a, b, c, d⟩, e⟩ := h
    go_enter Try.func7, Try.ntmps7
    go_wp2
    go_ret
    exact ⟨rfl, below_alloc (Nat.le_refl _) (Below.refl _ _)⟩
  · obtain ⟨a, b, c, d⟩ := h
    obtain ⟨e, f, g⟩ := g
    have g' : (K != 10) = true := by rw [bne_iff_ne]; exact g
    clear g
    go_enter Try.func7, Try.ntmps7
    go_wp2
    go_ret
    exact ⟨rfl, below_alloc (Nat.le_refl _) (Below.refl _ _)⟩

theorem opAdmin_any (K T N M H : Int) (s : ByteArray) (w : World) (hs : s.size ≤ maxLen) :
    Calls Try.prog 9 #[.agg #[.int .i64 K, .int .i64 T, .int .i64 N, .int .i64 M, .int .u64 H, .string s]] w fun e w' => e = .returned (.bool (rightB K T s && decide (K ≤ 3))) ∧ Below w.heap.size w w' := by
  cases h : rightB K T s with
  | true =>
    rw [Bool.true_and]
    replace h := Lib.hid h
    go_enter Try.func9, Try.ntmps9
    go_wp2_with fail
    refine (opCheck_yes _ _ _ _ _ _ _ hs h.out).mono ?_; rintro e w1 ⟨rfl, hb⟩
    have hc := (below_reads hb).1
    simp only [World.size_alloc] at hc
    go_wp2_with fail
    go_ret
    exact ⟨rfl, (below_alloc (Nat.le_refl _) (Below.refl _ _)).trans (hb.mono (by simp))⟩
  | false =>
    rw [Bool.false_and]
    replace h := Lib.hid h
    go_enter Try.func9, Try.ntmps9
    go_wp2_with fail
    refine (opCheck_no _ _ _ _ _ _ _ hs h.out).mono ?_; rintro e w1 ⟨rfl, hb⟩
    go_wp2_with fail
    go_ret
    exact ⟨rfl, (below_alloc (Nat.le_refl _) (Below.refl _ _)).trans (hb.mono (by simp))⟩

end Go.Proofs.Ytcoaopcompngfaa
