/- The contracts of garthref19.Right and garthref19.Asks. -/
import Derived.Test.YtcoaopcompngfaaAsk19
import Derived.Test.YtcoaopcompngfaaRef03o
namespace Go.Proofs.Ytcoaopcompngfaa
open Go.RowKit
set_option linter.unusedVariables false

attribute [local irreducible] smallT unitT kindT perT pagesT alignT chargeT

theorem refRight_any (K T N M H : Int) (s : ByteArray) (w : World) (hs : s.size ≤ maxLen) :
    Calls Try.prog 6 #[.agg #[.int .i64 K, .int .i64 T, .int .i64 N, .int .i64 M, .int .u64 H, .string s]] w fun e w' => e = .returned (.bool (rightB K T s)) ∧ Below w.heap.size w w' := by
  unfold maxLen at hs
  cases h : rightB K T s with
  | true =>
    obtain ⟨k0, k1, t0, t1, s1, g⟩ := right_iff.1 h
    clear h
    by_cases hk : K = 10
    · have e : (K == 10) = true := beq_iff_eq.2 hk
      clear hk g
      go_enter Try.func6, Try.ntmps6
      go_wp2
      go_ret
      exact ⟨rfl, (below_alloc (Nat.le_refl _) (Below.refl _ _))⟩
    · have e : (K == 10) = false := beq_eq_false_iff_ne.2 hk
      obtain ⟨z1, z2⟩ := empty_of (s := s) (by omega)
      clear hk g
      go_enter Try.func6, Try.ntmps6
      go_wp2
      go_ret
      exact ⟨rfl, (below_alloc (Nat.le_refl _) (Below.refl _ _))⟩
  | false =>
    rcases right_not h with h | h | h | h | h | ⟨h, g⟩
    · skip
      go_enter Try.func6, Try.ntmps6
      go_wp2
      go_ret
      exact ⟨rfl, (below_alloc (Nat.le_refl _) (Below.refl _ _))⟩
    · obtain ⟨a, b⟩ := h
      go_enter Try.func6, Try.ntmps6
      go_wp2
      go_ret
      exact ⟨rfl, (below_alloc (Nat.le_refl _) (Below.refl _ _))⟩
    · obtain ⟨⟨a, b⟩, c⟩ := h
      go_enter Try.func6, Try.ntmps6
      go_wp2
      go_ret
      exact ⟨rfl, (below_alloc (Nat.le_refl _) (Below.refl _ _))⟩
    · obtain ⟨⟨a, b⟩, c, d⟩ := h
      go_enter Try.func6, Try.ntmps6
      go_wp2
      go_ret
      exact ⟨rfl, (below_alloc (Nat.le_refl _) (Below.refl _ _))⟩
    · obtain ⟨⟨a, b, c, d⟩, e⟩ := h
      go_enter Try.func6, Try.ntmps6
      go_wp2
      go_ret
      exact ⟨rfl, (below_alloc (Nat.le_refl _) (Below.refl _ _))⟩
    · obtain ⟨a, b, c, d⟩ := h
      obtain ⟨e, f, g⟩ := g
      have g' : (K == 10) = false := beq_eq_false_iff_ne.2 g
      obtain ⟨z1, z2⟩ := full_of f
      clear g f z2
      go_enter Try.func6, Try.ntmps6
      go_wp2
      go_ret
      exact ⟨rfl, (below_alloc (Nat.le_refl _) (Below.refl _ _))⟩

theorem refAsks_a (K T N M H : Int) (s : ByteArray) (w : World) (hs : s.size ≤ maxLen) (e4 : (K == 4) = true) (e5 : (K == 5) = false) :
    Calls Try.prog 11 #[.agg #[.int .i64 K, .int .i64 T, .int .i64 N, .int .i64 M, .int .u64 H, .string s]] w fun e w' => e = .returned (.int .i64 (askT (rightB K T s) (N))) ∧ Below w.heap.size w w' := by
  have refR := refRight_any K T N M H s (w.alloc (.cells #[.int .i64 K, .int .i64 T, .int .i64 N, .int .i64 M, .int .u64 H, .string s] 24)) hs
  cases h : rightB K T s with
  | false =>
    rw [askT_no]
    rw [h] at refR
    replace refR := Lib.hid refR
    clear h
    go_enter Try.func11, Try.ntmps11
    go_wp2_with fail
    refine refR.out.mono ?_; rintro e w1 ⟨rfl, hb⟩
    go_wp2_with fail
    go_ret
    exact ⟨rfl, below_s (below_alloc (Nat.le_refl _) (Below.refl _ _)) hb⟩
  | true =>
    rw [h] at refR
    replace refR := Lib.hid refR
    clear h
    by_cases g : 1 ≤ N ∧ N ≤ 8192
    · skip
      have q0 := (unit_kind g.1 g.2).1
      have q1 := (unit_kind g.1 g.2).2.1
      rw [askT_in g.1 g.2]
      obtain ⟨g0, g1⟩ := g
      go_enter Try.func11, Try.ntmps11
      go_wp2_with fail
      refine refR.out.mono ?_; rintro e w1 ⟨rfl, hb⟩
      go_wp2_with fail
      refine (refKind_any _ _).mono ?_; rintro e w2 ⟨rfl, hb2⟩
      go_wp2_with fail
      go_ret
      exact ⟨rfl, below_s (below_s (below_alloc (Nat.le_refl _) (Below.refl _ _)) hb) hb2⟩
    · rw [askT_out (by omega)]
      have q0 : kindT (N) = -1 := kind_out (by omega)
      have q0' : kindT (N) < 0 := by omega
      replace q0 := Lib.hid q0
      clear g
      go_enter Try.func11, Try.ntmps11
      go_wp2_with fail
      refine refR.out.mono ?_; rintro e w1 ⟨rfl, hb⟩
      go_wp2_with fail
      refine (refKind_any _ _).mono ?_; rintro e w2 ⟨rfl, hb2⟩
      go_wp2_with fail
      go_ret
      exact ⟨rfl, below_s (below_s (below_alloc (Nat.le_refl _) (Below.refl _ _)) hb) hb2⟩

theorem refAsks_b (K T N M H : Int) (s : ByteArray) (w : World) (hs : s.size ≤ maxLen) (e4 : (K == 4) = false) (e7 : (K == 7) = true) (e5 : (K == 5) = false) :
    Calls Try.prog 11 #[.agg #[.int .i64 K, .int .i64 T, .int .i64 N, .int .i64 M, .int .u64 H, .string s]] w fun e w' => e = .returned (.int .i64 (askT (rightB K T s) (N))) ∧ Below w.heap.size w w' := by
  have refR := refRight_any K T N M H s (w.alloc (.cells #[.int .i64 K, .int .i64 T, .int .i64 N, .int .i64 M, .int .u64 H, .string s] 24)) hs
  cases h : rightB K T s with
  | false =>
    rw [askT_no]
    rw [h] at refR
    replace refR := Lib.hid refR
    clear h
    go_enter Try.func11, Try.ntmps11
    go_wp2_with fail
    refine refR.out.mono ?_; rintro e w1 ⟨rfl, hb⟩
    go_wp2_with fail
    go_ret
    exact ⟨rfl, below_s (below_alloc (Nat.le_refl _) (Below.refl _ _)) hb⟩
  | true =>
    rw [h] at refR
    replace refR := Lib.hid refR
    clear h
    by_cases g : 1 ≤ N ∧ N ≤ 8192
    · skip
      have q0 := (unit_kind g.1 g.2).1
      have q1 := (unit_kind g.1 g.2).2.1
      rw [askT_in g.1 g.2]
      obtain ⟨g0, g1⟩ := g
      go_enter Try.func11, Try.ntmps11
      go_wp2_with fail
      refine refR.out.mono ?_; rintro e w1 ⟨rfl, hb⟩
      go_wp2_with fail
      refine (refKind_any _ _).mono ?_; rintro e w2 ⟨rfl, hb2⟩
      go_wp2_with fail
      go_ret
      exact ⟨rfl, below_s (below_s (below_alloc (Nat.le_refl _) (Below.refl _ _)) hb) hb2⟩
    · rw [askT_out (by omega)]
      have q0 : kindT (N) = -1 := kind_out (by omega)
      have q0' : kindT (N) < 0 := by omega
      replace q0 := Lib.hid q0
      clear g
      go_enter Try.func11, Try.ntmps11
      go_wp2_with fail
      refine refR.out.mono ?_; rintro e w1 ⟨rfl, hb⟩
      go_wp2_with fail
      refine (refKind_any _ _).mono ?_; rintro e w2 ⟨rfl, hb2⟩
      go_wp2_with fail
      go_ret
      exact ⟨rfl, below_s (below_s (below_alloc (Nat.le_refl _) (Below.refl _ _)) hb) hb2⟩

theorem refAsks_c (K T N M H : Int) (s : ByteArray) (w : World) (hs : s.size ≤ maxLen) (e4 : (K == 4) = false) (e7 : (K == 7) = false) (e5 : (K == 5) = false) :
    Calls Try.prog 11 #[.agg #[.int .i64 K, .int .i64 T, .int .i64 N, .int .i64 M, .int .u64 H, .string s]] w fun e w' => e = .returned (.int .i64 (askT (rightB K T s) (0))) ∧ Below w.heap.size w w' := by
  have refR := refRight_any K T N M H s (w.alloc (.cells #[.int .i64 K, .int .i64 T, .int .i64 N, .int .i64 M, .int .u64 H, .string s] 24)) hs
  cases h : rightB K T s with
  | false =>
    rw [askT_no]
    rw [h] at refR
    replace refR := Lib.hid refR
    clear h
    go_enter Try.func11, Try.ntmps11
    go_wp2_with fail
    refine refR.out.mono ?_; rintro e w1 ⟨rfl, hb⟩
    go_wp2_with fail
    go_ret
    exact ⟨rfl, below_s (below_alloc (Nat.le_refl _) (Below.refl _ _)) hb⟩
  | true =>
    rw [h] at refR
    replace refR := Lib.hid refR
    clear h
    rw [askT_out (n := 0) (by omega)]
    have q0 : kindT 0 = -1 := kind_out (by omega)
    have q0' : kindT 0 < 0 := by omega
    replace q0 := Lib.hid q0
    go_enter Try.func11, Try.ntmps11
    go_wp2_with fail
    refine refR.out.mono ?_; rintro e w1 ⟨rfl, hb⟩
    go_wp2_with fail
    refine (refKind_any _ _).mono ?_; rintro e w2 ⟨rfl, hb2⟩
    go_wp2_with fail
    go_ret
    exact ⟨rfl, below_s (below_s (below_alloc (Nat.le_refl _) (Below.refl _ _)) hb) hb2⟩

theorem refAsks_d (K T N M H : Int) (s : ByteArray) (w : World) (hs : s.size ≤ maxLen) (e4 : (K == 4) = false) (e7 : (K == 7) = false) (e5 : (K == 5) = true) (n0 : 1 ≤ N) (m0 : 1 ≤ M) (n1 : N ≤ 8192) (m1 : M ≤ 8192) (p0 : 0 ≤ N * M) (p1 : N * M ≤ 67108864) :
    Calls Try.prog 11 #[.agg #[.int .i64 K, .int .i64 T, .int .i64 N, .int .i64 M, .int .u64 H, .string s]] w fun e w' => e = .returned (.int .i64 (askT (rightB K T s) (N * M))) ∧ Below w.heap.size w w' := by
  have refR := refRight_any K T N M H s (w.alloc (.cells #[.int .i64 K, .int .i64 T, .int .i64 N, .int .i64 M, .int .u64 H, .string s] 24)) hs
  cases h : rightB K T s with
  | false =>
    rw [askT_no]
    rw [h] at refR
    replace refR := Lib.hid refR
    clear h
    go_enter Try.func11, Try.ntmps11
    go_wp2_with fail
    refine refR.out.mono ?_; rintro e w1 ⟨rfl, hb⟩
    go_wp2_with fail
    go_ret
    exact ⟨rfl, below_s (below_alloc (Nat.le_refl _) (Below.refl _ _)) hb⟩
  | true =>
    rw [h] at refR
    replace refR := Lib.hid refR
    clear h
    by_cases g : 1 ≤ N * M ∧ N * M ≤ 8192
    · skip
      have q0 := (unit_kind g.1 g.2).1
      have q1 := (unit_kind g.1 g.2).2.1
      rw [askT_in g.1 g.2]
      obtain ⟨g0, g1⟩ := g
      go_enter Try.func11, Try.ntmps11
      go_wp2_with fail
      refine refR.out.mono ?_; rintro e w1 ⟨rfl, hb⟩
      go_wp2_with fail
      refine (refKind_any _ _).mono ?_; rintro e w2 ⟨rfl, hb2⟩
      go_wp2_with fail
      go_ret
      exact ⟨rfl, below_s (below_s (below_alloc (Nat.le_refl _) (Below.refl _ _)) hb) hb2⟩
    · rw [askT_out (by omega)]
      have q0 : kindT (N * M) = -1 := kind_out (by omega)
      have q0' : kindT (N * M) < 0 := by omega
      replace q0 := Lib.hid q0
      clear g
      go_enter Try.func11, Try.ntmps11
      go_wp2_with fail
      refine refR.out.mono ?_; rintro e w1 ⟨rfl, hb⟩
      go_wp2_with fail
      refine (refKind_any _ _).mono ?_; rintro e w2 ⟨rfl, hb2⟩
      go_wp2_with fail
      go_ret
      exact ⟨rfl, below_s (below_s (below_alloc (Nat.le_refl _) (Below.refl _ _)) hb) hb2⟩

theorem refAsks_e (K T N M H : Int) (s : ByteArray) (w : World) (hs : s.size ≤ maxLen) (e4 : (K == 4) = false) (e7 : (K == 7) = false) (e5 : (K == 5) = true) (n0 : N < 1) :
    Calls Try.prog 11 #[.agg #[.int .i64 K, .int .i64 T, .int .i64 N, .int .i64 M, .int .u64 H, .string s]] w fun e w' => e = .returned (.int .i64 (askT (rightB K T s) (0))) ∧ Below w.heap.size w w' := by
  have refR := refRight_any K T N M H s (w.alloc (.cells #[.int .i64 K, .int .i64 T, .int .i64 N, .int .i64 M, .int .u64 H, .string s] 24)) hs
  cases h : rightB K T s with
  | false =>
    rw [askT_no]
    rw [h] at refR
    replace refR := Lib.hid refR
    clear h
    go_enter Try.func11, Try.ntmps11
    go_wp2_with fail
    refine refR.out.mono ?_; rintro e w1 ⟨rfl, hb⟩
    go_wp2_with fail
    go_ret
    exact ⟨rfl, below_s (below_alloc (Nat.le_refl _) (Below.refl _ _)) hb⟩
  | true =>
    rw [h] at refR
    replace refR := Lib.hid refR
    clear h
    rw [askT_out (n := 0) (by omega)]
    have q0 : kindT 0 = -1 := kind_out (by omega)
    have q0' : kindT 0 < 0 := by omega
    replace q0 := Lib.hid q0
    go_enter Try.func11, Try.ntmps11
    go_wp2_with fail
    refine refR.out.mono ?_; rintro e w1 ⟨rfl, hb⟩
    go_wp2_with fail
    refine (refKind_any _ _).mono ?_; rintro e w2 ⟨rfl, hb2⟩
    go_wp2_with fail
    go_ret
    exact ⟨rfl, below_s (below_s (below_alloc (Nat.le_refl _) (Below.refl _ _)) hb) hb2⟩

theorem refAsks_f (K T N M H : Int) (s : ByteArray) (w : World) (hs : s.size ≤ maxLen) (e4 : (K == 4) = false) (e7 : (K == 7) = false) (e5 : (K == 5) = true) (n0 : 1 ≤ N) (m0 : M < 1) :
    Calls Try.prog 11 #[.agg #[.int .i64 K, .int .i64 T, .int .i64 N, .int .i64 M, .int .u64 H, .string s]] w fun e w' => e = .returned (.int .i64 (askT (rightB K T s) (0))) ∧ Below w.heap.size w w' := by
  have refR := refRight_any K T N M H s (w.alloc (.cells #[.int .i64 K, .int .i64 T, .int .i64 N, .int .i64 M, .int .u64 H, .string s] 24)) hs
  cases h : rightB K T s with
  | false =>
    rw [askT_no]
    rw [h] at refR
    replace refR := Lib.hid refR
    clear h
    go_enter Try.func11, Try.ntmps11
    go_wp2_with fail
    refine refR.out.mono ?_; rintro e w1 ⟨rfl, hb⟩
    go_wp2_with fail
    go_ret
    exact ⟨rfl, below_s (below_alloc (Nat.le_refl _) (Below.refl _ _)) hb⟩
  | true =>
    rw [h] at refR
    replace refR := Lib.hid refR
    clear h
    rw [askT_out (n := 0) (by omega)]
    have q0 : kindT 0 = -1 := kind_out (by omega)
    have q0' : kindT 0 < 0 := by omega
    replace q0 := Lib.hid q0
    go_enter Try.func11, Try.ntmps11
    go_wp2_with fail
    refine refR.out.mono ?_; rintro e w1 ⟨rfl, hb⟩
    go_wp2_with fail
    refine (refKind_any _ _).mono ?_; rintro e w2 ⟨rfl, hb2⟩
    go_wp2_with fail
    go_ret
    exact ⟨rfl, below_s (below_s (below_alloc (Nat.le_refl _) (Below.refl _ _)) hb) hb2⟩

theorem refAsks_g (K T N M H : Int) (s : ByteArray) (w : World) (hs : s.size ≤ maxLen) (e4 : (K == 4) = false) (e7 : (K == 7) = false) (e5 : (K == 5) = true) (n0 : 1 ≤ N) (m0 : 1 ≤ M) (n1 : 8192 < N) :
    Calls Try.prog 11 #[.agg #[.int .i64 K, .int .i64 T, .int .i64 N, .int .i64 M, .int .u64 H, .string s]] w fun e w' => e = .returned (.int .i64 (askT (rightB K T s) (0))) ∧ Below w.heap.size w w' := by
  have refR := refRight_any K T N M H s (w.alloc (.cells #[.int .i64 K, .int .i64 T, .int .i64 N, .int .i64 M, .int .u64 H, .string s] 24)) hs
  cases h : rightB K T s with
  | false =>
    rw [askT_no]
    rw [h] at refR
    replace refR := Lib.hid refR
    clear h
    go_enter Try.func11, Try.ntmps11
    go_wp2_with fail
    refine refR.out.mono ?_; rintro e w1 ⟨rfl, hb⟩
    go_wp2_with fail
    go_ret
    exact ⟨rfl, below_s (below_alloc (Nat.le_refl _) (Below.refl _ _)) hb⟩
  | true =>
    rw [h] at refR
    replace refR := Lib.hid refR
    clear h
    rw [askT_out (n := 0) (by omega)]
    have q0 : kindT 0 = -1 := kind_out (by omega)
    have q0' : kindT 0 < 0 := by omega
    replace q0 := Lib.hid q0
    go_enter Try.func11, Try.ntmps11
    go_wp2_with fail
    refine refR.out.mono ?_; rintro e w1 ⟨rfl, hb⟩
    go_wp2_with fail
    refine (refKind_any _ _).mono ?_; rintro e w2 ⟨rfl, hb2⟩
    go_wp2_with fail
    go_ret
    exact ⟨rfl, below_s (below_s (below_alloc (Nat.le_refl _) (Below.refl _ _)) hb) hb2⟩

theorem refAsks_i (K T N M H : Int) (s : ByteArray) (w : World) (hs : s.size ≤ maxLen) (e4 : (K == 4) = false) (e7 : (K == 7) = false) (e5 : (K == 5) = true) (n0 : 1 ≤ N) (m0 : 1 ≤ M) (n1 : N ≤ 8192) (m1 : 8192 < M) :
    Calls Try.prog 11 #[.agg #[.int .i64 K, .int .i64 T, .int .i64 N, .int .i64 M, .int .u64 H, .string s]] w fun e w' => e = .returned (.int .i64 (askT (rightB K T s) (0))) ∧ Below w.heap.size w w' := by
  have refR := refRight_any K T N M H s (w.alloc (.cells #[.int .i64 K, .int .i64 T, .int .i64 N, .int .i64 M, .int .u64 H, .string s] 24)) hs
  cases h : rightB K T s with
  | false =>
    rw [askT_no]
    rw [h] at refR
    replace refR := Lib.hid refR
    clear h
    go_enter Try.func11, Try.ntmps11
    go_wp2_with fail
    refine refR.out.mono ?_; rintro e w1 ⟨rfl, hb⟩
    go_wp2_with fail
    go_ret
    exact ⟨rfl, below_s (below_alloc (Nat.le_refl _) (Below.refl _ _)) hb⟩
  | true =>
    rw [h] at refR
    replace refR := Lib.hid refR
    clear h
    rw [askT_out (n := 0) (by omega)]
    have q0 : kindT 0 = -1 := kind_out (by omega)
    have q0' : kindT 0 < 0 := by omega
    replace q0 := Lib.hid q0
    go_enter Try.func11, Try.ntmps11
    go_wp2_with fail
    refine refR.out.mono ?_; rintro e w1 ⟨rfl, hb⟩
    go_wp2_with fail
    refine (refKind_any _ _).mono ?_; rintro e w2 ⟨rfl, hb2⟩
    go_wp2_with fail
    go_ret
    exact ⟨rfl, below_s (below_s (below_alloc (Nat.le_refl _) (Below.refl _ _)) hb) hb2⟩

theorem askT_over {r : Bool} {n : Int} (h : 8192 < n) : askT r n = askT r 0 := by
  cases r
  · rw [askT_no, askT_no]
  · rw [askT_out (.inr h), askT_out (.inl (by omega))]

theorem refAsks_any (K T N M H : Int) (s : ByteArray) (w : World) (hs : s.size ≤ maxLen) :
    Calls Try.prog 11 #[.agg #[.int .i64 K, .int .i64 T, .int .i64 N, .int .i64 M, .int .u64 H, .string s]] w fun e w' => e = .returned (.int .i64 (askT (rightB K T s) (askN K N M))) ∧ Below w.heap.size w w' := by
  unfold askN
  cases e4 : K == 4 with
  | true =>
    have k4 := eq_of_beq e4
    rw [if_pos (.inl k4)]
    exact refAsks_a K T N M H s w hs e4 (beq_eq_false_iff_ne.2 (by omega))
  | false =>
    have k4 : K ≠ 4 := beq_eq_false_iff_ne.1 e4
    cases e7 : K == 7 with
    | true =>
      have k7 := eq_of_beq e7
      rw [if_pos (.inr k7)]
      exact refAsks_b K T N M H s w hs e4 e7 (beq_eq_false_iff_ne.2 (by omega))
    | false =>
      have k7 : K ≠ 7 := beq_eq_false_iff_ne.1 e7
      rw [if_neg (by omega)]
      cases e5 : K == 5 with
      | false =>
        rw [if_neg (fun q => by rw [q.1] at e5; cases e5)]
        exact refAsks_c K T N M H s w hs e4 e7 e5
      | true =>
        have k5 : K = 5 := eq_of_beq e5
        by_cases n0 : 1 ≤ N
        · by_cases m0 : 1 ≤ M
          · have p0 := Int.mul_nonneg (show 0 ≤ N by omega) (show 0 ≤ M by omega)
            have hN : N * 1 ≤ N * M := Int.mul_le_mul_of_nonneg_left m0 (by omega)
            have hM : 1 * M ≤ N * M := Int.mul_le_mul_of_nonneg_right n0 (by omega)
            by_cases n1 : N ≤ 8192
            · by_cases m1 : M ≤ 8192
              · have p1 : N * M ≤ 8192 * 8192 := Int.mul_le_mul n1 m1 (by omega) (by omega)
                have hd := refAsks_d K T N M H s w hs e4 e7 e5 n0 m0 n1 m1 p0 p1
                by_cases p2 : N * M ≤ 8192
                · rw [if_pos ⟨k5, n0, m0, p2⟩]; exact hd
                · rw [if_neg (fun q => p2 q.2.2.2), ← askT_over (by omega : 8192 < N * M)]; exact hd
              · rw [if_neg (by omega)]
                exact refAsks_i K T N M H s w hs e4 e7 e5 n0 m0 n1 (by omega)
            · rw [if_neg (by omega)]
              exact refAsks_g K T N M H s w hs e4 e7 e5 n0 m0 (by omega)
          · rw [if_neg (by omega)]
            exact refAsks_f K T N M H s w hs e4 e7 e5 n0 (by omega)
        · rw [if_neg (by omega)]
          exact refAsks_e K T N M H s w hs e4 e7 e5 (by omega)

end Go.Proofs.Ytcoaopcompngfaa
