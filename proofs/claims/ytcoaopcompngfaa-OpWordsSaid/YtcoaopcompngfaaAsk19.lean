/- The contract of op.Asks. -/
import Derived.Test.YtcoaopcompngfaaOp19
import Derived.Test.YtcoaopcompngfaaClsOf
namespace Go.Proofs.Ytcoaopcompngfaa
open Go.RowKit
set_option linter.unusedVariables false

attribute [local irreducible] smallT unitT kindT perT pagesT alignT chargeT

/-- The bytes named by an operation. -/
@[irreducible] def askN (K N M : Int) : Int := if K = 4 ∨ K = 7 then N else if K = 5 ∧ 1 ≤ N ∧ 1 ≤ M ∧ N * M ≤ 8192 then N * M else 0
@[irreducible] def askT (r : Bool) (n : Int) : Int := if r = true ∧ 1 ≤ n ∧ n ≤ 8192 then n else 0

theorem askT_no (n : Int) : askT false n = 0 := by unfold askT; rw [if_neg (by simp)]
theorem askT_in {n : Int} (h0 : 1 ≤ n) (h1 : n ≤ 8192) : askT true n = n := by unfold askT; rw [if_pos ⟨rfl, h0, h1⟩]
theorem askT_out {n : Int} (h : n < 1 ∨ 8192 < n) : askT true n = 0 := by unfold askT; rw [if_neg (by omega)]
theorem askT_bound (r : Bool) (n : Int) : 0 ≤ askT r n ∧ askT r n ≤ 8192 := by
  unfold askT; split <;> omega

theorem le_div {N M : Int} (m0 : 1 ≤ M) : N ≤ 8192 / M ↔ N * M ≤ 8192 := Int.le_ediv_iff_mul_le (by omega)

theorem asks_a (K T N M H : Int) (s : ByteArray) (w : World) (hs : s.size ≤ maxLen) (e4 : (K == 4) = true) :
    Calls Try.prog 10 #[.agg #[.int .i64 K, .int .i64 T, .int .i64 N, .int .i64 M, .int .u64 H, .string s]] w fun e w' => e = .returned (.int .i64 (askT (rightB K T s) (N))) ∧ Below w.heap.size w w' := by
  cases h : rightB K T s with
  | false =>
    rw [askT_no]
    replace h := Lib.hid h
    go_enter Try.func10, Try.ntmps10
    go_wp2_with fail
    refine (opCheck_no _ _ _ _ _ _ _ hs h.out).mono ?_; rintro e w1 ⟨rfl, hb⟩
    go_wp2_with fail
    go_ret
    exact ⟨rfl, below_s (below_alloc (Nat.le_refl _) (Below.refl _ _)) hb⟩
  | true =>
    replace h := Lib.hid h
    by_cases g : 1 ≤ N ∧ N ≤ 8192
    · skip
      have q0 := (unit_kind g.1 g.2).1
      have q1 := (unit_kind g.1 g.2).2.1
      rw [askT_in g.1 g.2]
      obtain ⟨g0, g1⟩ := g
      go_enter Try.func10, Try.ntmps10
      go_wp2_with fail
      refine (opCheck_yes _ _ _ _ _ _ _ hs h.out).mono ?_; rintro e w1 ⟨rfl, hb⟩
      go_wp2_with fail
      refine (kindOf_any _ _).mono ?_; rintro e w' ⟨rfl, hw⟩; obtain rfl := hw.symm
      clear hw
      go_wp2_with fail
      go_ret
      exact ⟨rfl, below_s (below_alloc (Nat.le_refl _) (Below.refl _ _)) hb⟩
    · rw [askT_out (by omega)]
      have q0 : kindT (N) = -1 := kind_out (by omega)
      have q0' : kindT (N) < 0 := by omega
      replace q0 := Lib.hid q0
      clear g
      go_enter Try.func10, Try.ntmps10
      go_wp2_with fail
      refine (opCheck_yes _ _ _ _ _ _ _ hs h.out).mono ?_; rintro e w1 ⟨rfl, hb⟩
      go_wp2_with fail
      refine (kindOf_any _ _).mono ?_; rintro e w' ⟨rfl, hw⟩; obtain rfl := hw.symm
      clear hw
      go_wp2_with fail
      go_ret
      exact ⟨rfl, below_s (below_alloc (Nat.le_refl _) (Below.refl _ _)) hb⟩

theorem asks_b (K T N M H : Int) (s : ByteArray) (w : World) (hs : s.size ≤ maxLen) (e4 : (K == 4) = false) (e7 : (K == 7) = true) :
    Calls Try.prog 10 #[.agg #[.int .i64 K, .int .i64 T, .int .i64 N, .int .i64 M, .int .u64 H, .string s]] w fun e w' => e = .returned (.int .i64 (askT (rightB K T s) (N))) ∧ Below w.heap.size w w' := by
  cases h : rightB K T s with
  | false =>
    rw [askT_no]
    replace h := Lib.hid h
    go_enter Try.func10, Try.ntmps10
    go_wp2_with fail
    refine (opCheck_no _ _ _ _ _ _ _ hs h.out).mono ?_; rintro e w1 ⟨rfl, hb⟩
    go_wp2_with fail
    go_ret
    exact ⟨rfl, below_s (below_alloc (Nat.le_refl _) (Below.refl _ _)) hb⟩
  | true =>
    replace h := Lib.hid h
    by_cases g : 1 ≤ N ∧ N ≤ 8192
    · skip
      have q0 := (unit_kind g.1 g.2).1
      have q1 := (unit_kind g.1 g.2).2.1
      rw [askT_in g.1 g.2]
      obtain ⟨g0, g1⟩ := g
      go_enter Try.func10, Try.ntmps10
      go_wp2_with fail
      refine (opCheck_yes _ _ _ _ _ _ _ hs h.out).mono ?_; rintro e w1 ⟨rfl, hb⟩
      go_wp2_with fail
      refine (kindOf_any _ _).mono ?_; rintro e w' ⟨rfl, hw⟩; obtain rfl := hw.symm
      clear hw
      go_wp2_with fail
      go_ret
      exact ⟨rfl, below_s (below_alloc (Nat.le_refl _) (Below.refl _ _)) hb⟩
    · rw [askT_out (by omega)]
      have q0 : kindT (N) = -1 := kind_out (by omega)
      have q0' : kindT (N) < 0 := by omega
      replace q0 := Lib.hid q0
      clear g
      go_enter Try.func10, Try.ntmps10
      go_wp2_with fail
      refine (opCheck_yes _ _ _ _ _ _ _ hs h.out).mono ?_; rintro e w1 ⟨rfl, hb⟩
      go_wp2_with fail
      refine (kindOf_any _ _).mono ?_; rintro e w' ⟨rfl, hw⟩; obtain rfl := hw.symm
      clear hw
      go_wp2_with fail
      go_ret
      exact ⟨rfl, below_s (below_alloc (Nat.le_refl _) (Below.refl _ _)) hb⟩

theorem asks_c (K T N M H : Int) (s : ByteArray) (w : World) (hs : s.size ≤ maxLen) (e4 : (K == 4) = false) (e7 : (K == 7) = false) (e5 : (K == 5) = false) :
    Calls Try.prog 10 #[.agg #[.int .i64 K, .int .i64 T, .int .i64 N, .int .i64 M, .int .u64 H, .string s]] w fun e w' => e = .returned (.int .i64 (askT (rightB K T s) (0))) ∧ Below w.heap.size w w' := by
  cases h : rightB K T s with
  | false =>
    rw [askT_no]
    replace h := Lib.hid h
    go_enter Try.func10, Try.ntmps10
    go_wp2_with fail
    refine (opCheck_no _ _ _ _ _ _ _ hs h.out).mono ?_; rintro e w1 ⟨rfl, hb⟩
    go_wp2_with fail
    go_ret
    exact ⟨rfl, below_s (below_alloc (Nat.le_refl _) (Below.refl _ _)) hb⟩
  | true =>
    replace h := Lib.hid h
    rw [askT_out (n := 0) (by omega)]
    have q0 : kindT 0 = -1 := kind_out (by omega)
    have q0' : kindT 0 < 0 := by omega
    replace q0 := Lib.hid q0
    go_enter Try.func10, Try.ntmps10
    go_wp2_with fail
    refine (opCheck_yes _ _ _ _ _ _ _ hs h.out).mono ?_; rintro e w1 ⟨rfl, hb⟩
    go_wp2_with fail
    refine (kindOf_any _ _).mono ?_; rintro e w' ⟨rfl, hw⟩; obtain rfl := hw.symm
    clear hw
    go_wp2_with fail
    go_ret
    exact ⟨rfl, below_s (below_alloc (Nat.le_refl _) (Below.refl _ _)) hb⟩

theorem asks_dyes (K T N M H : Int) (s : ByteArray) (w : World) (hs : s.size ≤ maxLen) (e4 : (K == 4) = false) (e7 : (K == 7) = false) (e5 : (K == 5) = true) (mn : M < N) (hd : decide (0 < M) = true) (m0 : 1 ≤ M) (n0 : 1 ≤ N) (hq : N ≤ 8192 / M) (p0 : 0 ≤ N * M) (p1 : N * M ≤ 8192) :
    Calls Try.prog 10 #[.agg #[.int .i64 K, .int .i64 T, .int .i64 N, .int .i64 M, .int .u64 H, .string s]] w fun e w' => e = .returned (.int .i64 (askT (rightB K T s) (N * M))) ∧ Below w.heap.size w w' := by
  cases h : rightB K T s with
  | false =>
    rw [askT_no]
    replace h := Lib.hid h
    go_enter Try.func10, Try.ntmps10
    go_wp2_with fail
    go_quiet (fail)
    go_wp2_with fail
    refine (opCheck_no _ _ _ _ _ _ _ hs h.out).mono ?_; rintro e w1 ⟨rfl, hb⟩
    go_wp2_with fail
    go_ret
    exact ⟨rfl, below_s (belowN (below_alloc (Nat.le_refl _) (Below.refl _ _)) _) hb⟩
  | true =>
    replace h := Lib.hid h
    by_cases g : 1 ≤ N * M ∧ N * M ≤ 8192
    · skip
      have q0 := (unit_kind g.1 g.2).1
      have q1 := (unit_kind g.1 g.2).2.1
      rw [askT_in g.1 g.2]
      obtain ⟨g0, g1⟩ := g
      go_enter Try.func10, Try.ntmps10
      go_wp2_with fail
      go_quiet (fail)
      go_wp2_with fail
      refine (opCheck_yes _ _ _ _ _ _ _ hs h.out).mono ?_; rintro e w1 ⟨rfl, hb⟩
      go_wp2_with fail
      refine (kindOf_any _ _).mono ?_; rintro e w' ⟨rfl, hw⟩; obtain rfl := hw.symm
      clear hw
      go_wp2_with fail
      go_ret
      exact ⟨rfl, below_s (belowN (below_alloc (Nat.le_refl _) (Below.refl _ _)) _) hb⟩
    · rw [askT_out (by omega)]
      have q0 : kindT (N * M) = -1 := kind_out (by omega)
      have q0' : kindT (N * M) < 0 := by omega
      replace q0 := Lib.hid q0
      clear g
      go_enter Try.func10, Try.ntmps10
      go_wp2_with fail
      go_quiet (fail)
      go_wp2_with fail
      refine (opCheck_yes _ _ _ _ _ _ _ hs h.out).mono ?_; rintro e w1 ⟨rfl, hb⟩
      go_wp2_with fail
      refine (kindOf_any _ _).mono ?_; rintro e w' ⟨rfl, hw⟩; obtain rfl := hw.symm
      clear hw
      go_wp2_with fail
      go_ret
      exact ⟨rfl, below_s (belowN (below_alloc (Nat.le_refl _) (Below.refl _ _)) _) hb⟩

theorem asks_dbig (K T N M H : Int) (s : ByteArray) (w : World) (hs : s.size ≤ maxLen) (e4 : (K == 4) = false) (e7 : (K == 7) = false) (e5 : (K == 5) = true) (mn : M < N) (hd : decide (0 < M) = true) (m0 : 1 ≤ M) (n0 : 1 ≤ N) (hq : ¬ N ≤ 8192 / M) :
    Calls Try.prog 10 #[.agg #[.int .i64 K, .int .i64 T, .int .i64 N, .int .i64 M, .int .u64 H, .string s]] w fun e w' => e = .returned (.int .i64 (askT (rightB K T s) (0))) ∧ Below w.heap.size w w' := by
  cases h : rightB K T s with
  | false =>
    rw [askT_no]
    replace h := Lib.hid h
    go_enter Try.func10, Try.ntmps10
    go_wp2_with fail
    go_quiet (fail)
    go_wp2_with fail
    refine (opCheck_no _ _ _ _ _ _ _ hs h.out).mono ?_; rintro e w1 ⟨rfl, hb⟩
    go_wp2_with fail
    go_ret
    exact ⟨rfl, below_s (belowN (below_alloc (Nat.le_refl _) (Below.refl _ _)) _) hb⟩
  | true =>
    replace h := Lib.hid h
    rw [askT_out (n := 0) (by omega)]
    have q0 : kindT 0 = -1 := kind_out (by omega)
    have q0' : kindT 0 < 0 := by omega
    replace q0 := Lib.hid q0
    go_enter Try.func10, Try.ntmps10
    go_wp2_with fail
    go_quiet (fail)
    go_wp2_with fail
    refine (opCheck_yes _ _ _ _ _ _ _ hs h.out).mono ?_; rintro e w1 ⟨rfl, hb⟩
    go_wp2_with fail
    refine (kindOf_any _ _).mono ?_; rintro e w' ⟨rfl, hw⟩; obtain rfl := hw.symm
    clear hw
    go_wp2_with fail
    go_ret
    exact ⟨rfl, below_s (belowN (below_alloc (Nat.le_refl _) (Below.refl _ _)) _) hb⟩

theorem asks_dlow (K T N M H : Int) (s : ByteArray) (w : World) (hs : s.size ≤ maxLen) (e4 : (K == 4) = false) (e7 : (K == 7) = false) (e5 : (K == 5) = true) (mn : M < N) (hd : decide (0 < M) = false) :
    Calls Try.prog 10 #[.agg #[.int .i64 K, .int .i64 T, .int .i64 N, .int .i64 M, .int .u64 H, .string s]] w fun e w' => e = .returned (.int .i64 (askT (rightB K T s) (0))) ∧ Below w.heap.size w w' := by
  cases h : rightB K T s with
  | false =>
    rw [askT_no]
    replace h := Lib.hid h
    go_enter Try.func10, Try.ntmps10
    go_wp2_with fail
    go_quiet (fail)
    go_wp2_with fail
    refine (opCheck_no _ _ _ _ _ _ _ hs h.out).mono ?_; rintro e w1 ⟨rfl, hb⟩
    go_wp2_with fail
    go_ret
    exact ⟨rfl, below_s (belowN (below_alloc (Nat.le_refl _) (Below.refl _ _)) _) hb⟩
  | true =>
    replace h := Lib.hid h
    rw [askT_out (n := 0) (by omega)]
    have q0 : kindT 0 = -1 := kind_out (by omega)
    have q0' : kindT 0 < 0 := by omega
    replace q0 := Lib.hid q0
    go_enter Try.func10, Try.ntmps10
    go_wp2_with fail
    go_quiet (fail)
    go_wp2_with fail
    refine (opCheck_yes _ _ _ _ _ _ _ hs h.out).mono ?_; rintro e w1 ⟨rfl, hb⟩
    go_wp2_with fail
    refine (kindOf_any _ _).mono ?_; rintro e w' ⟨rfl, hw⟩; obtain rfl := hw.symm
    clear hw
    go_wp2_with fail
    go_ret
    exact ⟨rfl, below_s (belowN (below_alloc (Nat.le_refl _) (Below.refl _ _)) _) hb⟩

theorem asks_eyes (K T N M H : Int) (s : ByteArray) (w : World) (hs : s.size ≤ maxLen) (e4 : (K == 4) = false) (e7 : (K == 7) = false) (e5 : (K == 5) = true) (mn : ¬ M < N) (hd : decide (0 < N) = true) (m0 : 1 ≤ M) (n0 : 1 ≤ N) (hq : N ≤ 8192 / M) (p0 : 0 ≤ N * M) (p1 : N * M ≤ 8192) :
    Calls Try.prog 10 #[.agg #[.int .i64 K, .int .i64 T, .int .i64 N, .int .i64 M, .int .u64 H, .string s]] w fun e w' => e = .returned (.int .i64 (askT (rightB K T s) (N * M))) ∧ Below w.heap.size w w' := by
  cases h : rightB K T s with
  | false =>
    rw [askT_no]
    replace h := Lib.hid h
    go_enter Try.func10, Try.ntmps10
    go_wp2_with fail
    go_quiet (fail)
    go_wp2_with fail
    refine (opCheck_no _ _ _ _ _ _ _ hs h.out).mono ?_; rintro e w1 ⟨rfl, hb⟩
    go_wp2_with fail
    go_ret
    exact ⟨rfl, below_s (belowN (below_alloc (Nat.le_refl _) (Below.refl _ _)) _) hb⟩
  | true =>
    replace h := Lib.hid h
    by_cases g : 1 ≤ N * M ∧ N * M ≤ 8192
    · skip
      have q0 := (unit_kind g.1 g.2).1
      have q1 := (unit_kind g.1 g.2).2.1
      rw [askT_in g.1 g.2]
      obtain ⟨g0, g1⟩ := g
      go_enter Try.func10, Try.ntmps10
      go_wp2_with fail
      go_quiet (fail)
      go_wp2_with fail
      refine (opCheck_yes _ _ _ _ _ _ _ hs h.out).mono ?_; rintro e w1 ⟨rfl, hb⟩
      go_wp2_with fail
      refine (kindOf_any _ _).mono ?_; rintro e w' ⟨rfl, hw⟩; obtain rfl := hw.symm
      clear hw
      go_wp2_with fail
      go_ret
      exact ⟨rfl, below_s (belowN (below_alloc (Nat.le_refl _) (Below.refl _ _)) _) hb⟩
    · rw [askT_out (by omega)]
      have q0 : kindT (N * M) = -1 := kind_out (by omega)
      have q0' : kindT (N * M) < 0 := by omega
      replace q0 := Lib.hid q0
      clear g
      go_enter Try.func10, Try.ntmps10
      go_wp2_with fail
      go_quiet (fail)
      go_wp2_with fail
      refine (opCheck_yes _ _ _ _ _ _ _ hs h.out).mono ?_; rintro e w1 ⟨rfl, hb⟩
      go_wp2_with fail
      refine (kindOf_any _ _).mono ?_; rintro e w' ⟨rfl, hw⟩; obtain rfl := hw.symm
      clear hw
      go_wp2_with fail
      go_ret
      exact ⟨rfl, below_s (belowN (below_alloc (Nat.le_refl _) (Below.refl _ _)) _) hb⟩

theorem asks_ebig (K T N M H : Int) (s : ByteArray) (w : World) (hs : s.size ≤ maxLen) (e4 : (K == 4) = false) (e7 : (K == 7) = false) (e5 : (K == 5) = true) (mn : ¬ M < N) (hd : decide (0 < N) = true) (m0 : 1 ≤ M) (n0 : 1 ≤ N) (hq : ¬ N ≤ 8192 / M) :
    Calls Try.prog 10 #[.agg #[.int .i64 K, .int .i64 T, .int .i64 N, .int .i64 M, .int .u64 H, .string s]] w fun e w' => e = .returned (.int .i64 (askT (rightB K T s) (0))) ∧ Below w.heap.size w w' := by
  cases h : rightB K T s with
  | false =>
    rw [askT_no]
    replace h := Lib.hid h
    go_enter Try.func10, Try.ntmps10
    go_wp2_with fail
    go_quiet (fail)
    go_wp2_with fail
    refine (opCheck_no _ _ _ _ _ _ _ hs h.out).mono ?_; rintro e w1 ⟨rfl, hb⟩
    go_wp2_with fail
    go_ret
    exact ⟨rfl, below_s (belowN (below_alloc (Nat.le_refl _) (Below.refl _ _)) _) hb⟩
  | true =>
    replace h := Lib.hid h
    rw [askT_out (n := 0) (by omega)]
    have q0 : kindT 0 = -1 := kind_out (by omega)
    have q0' : kindT 0 < 0 := by omega
    replace q0 := Lib.hid q0
    go_enter Try.func10, Try.ntmps10
    go_wp2_with fail
    go_quiet (fail)
    go_wp2_with fail
    refine (opCheck_yes _ _ _ _ _ _ _ hs h.out).mono ?_; rintro e w1 ⟨rfl, hb⟩
    go_wp2_with fail
    refine (kindOf_any _ _).mono ?_; rintro e w' ⟨rfl, hw⟩; obtain rfl := hw.symm
    clear hw
    go_wp2_with fail
    go_ret
    exact ⟨rfl, below_s (belowN (below_alloc (Nat.le_refl _) (Below.refl _ _)) _) hb⟩

theorem asks_elow (K T N M H : Int) (s : ByteArray) (w : World) (hs : s.size ≤ maxLen) (e4 : (K == 4) = false) (e7 : (K == 7) = false) (e5 : (K == 5) = true) (mn : ¬ M < N) (hd : decide (0 < N) = false) :
    Calls Try.prog 10 #[.agg #[.int .i64 K, .int .i64 T, .int .i64 N, .int .i64 M, .int .u64 H, .string s]] w fun e w' => e = .returned (.int .i64 (askT (rightB K T s) (0))) ∧ Below w.heap.size w w' := by
  cases h : rightB K T s with
  | false =>
    rw [askT_no]
    replace h := Lib.hid h
    go_enter Try.func10, Try.ntmps10
    go_wp2_with fail
    go_quiet (fail)
    go_wp2_with fail
    refine (opCheck_no _ _ _ _ _ _ _ hs h.out).mono ?_; rintro e w1 ⟨rfl, hb⟩
    go_wp2_with fail
    go_ret
    exact ⟨rfl, below_s (belowN (below_alloc (Nat.le_refl _) (Below.refl _ _)) _) hb⟩
  | true =>
    replace h := Lib.hid h
    rw [askT_out (n := 0) (by omega)]
    have q0 : kindT 0 = -1 := kind_out (by omega)
    have q0' : kindT 0 < 0 := by omega
    replace q0 := Lib.hid q0
    go_enter Try.func10, Try.ntmps10
    go_wp2_with fail
    go_quiet (fail)
    go_wp2_with fail
    refine (opCheck_yes _ _ _ _ _ _ _ hs h.out).mono ?_; rintro e w1 ⟨rfl, hb⟩
    go_wp2_with fail
    refine (kindOf_any _ _).mono ?_; rintro e w' ⟨rfl, hw⟩; obtain rfl := hw.symm
    clear hw
    go_wp2_with fail
    go_ret
    exact ⟨rfl, below_s (belowN (below_alloc (Nat.le_refl _) (Below.refl _ _)) _) hb⟩

theorem opAsks_any (K T N M H : Int) (s : ByteArray) (w : World) (hs : s.size ≤ maxLen) :
    Calls Try.prog 10 #[.agg #[.int .i64 K, .int .i64 T, .int .i64 N, .int .i64 M, .int .u64 H, .string s]] w fun e w' => e = .returned (.int .i64 (askT (rightB K T s) (askN K N M))) ∧ Below w.heap.size w w' := by
  unfold askN
  cases e4 : K == 4 with
  | true =>
    rw [if_pos (.inl (eq_of_beq e4))]
    exact asks_a K T N M H s w hs e4
  | false =>
    have k4 : K ≠ 4 := beq_eq_false_iff_ne.1 e4
    cases e7 : K == 7 with
    | true =>
      rw [if_pos (.inr (eq_of_beq e7))]
      exact asks_b K T N M H s w hs e4 e7
    | false =>
      have k7 : K ≠ 7 := beq_eq_false_iff_ne.1 e7
      rw [if_neg (by omega)]
      cases e5 : K == 5 with
      | false =>
        rw [if_neg (fun q => by rw [q.1] at e5; cases e5)]
        exact asks_c K T N M H s w hs e4 e7 e5
      | true =>
        have k5 : K = 5 := eq_of_beq e5
        by_cases mn : M < N
        · by_cases m0 : 1 ≤ M
          · by_cases hq : N ≤ 8192 / M
            · have p1 := (le_div m0).1 hq
              have p0 := Int.mul_nonneg (show 0 ≤ N by omega) (show 0 ≤ M by omega)
              rw [if_pos ⟨k5, by omega, m0, p1⟩]
              exact asks_dyes K T N M H s w hs e4 e7 e5 mn (decide_eq_true (by omega)) m0 (by omega) hq p0 p1
            · rw [if_neg (fun q => hq ((le_div m0).2 q.2.2.2))]
              exact asks_dbig K T N M H s w hs e4 e7 e5 mn (decide_eq_true (by omega)) m0 (by omega) hq
          · rw [if_neg (by omega)]
            exact asks_dlow K T N M H s w hs e4 e7 e5 mn (decide_eq_false (by omega))
        · by_cases n0 : 1 ≤ N
          · have m0 : 1 ≤ M := by omega
            by_cases hq : N ≤ 8192 / M
            · have p1 := (le_div m0).1 hq
              have p0 := Int.mul_nonneg (show 0 ≤ N by omega) (show 0 ≤ M by omega)
              rw [if_pos ⟨k5, by omega, m0, p1⟩]
              exact asks_eyes K T N M H s w hs e4 e7 e5 mn (decide_eq_true (by omega)) m0 (by omega) hq p0 p1
            · rw [if_neg (fun q => hq ((le_div m0).2 q.2.2.2))]
              exact asks_ebig K T N M H s w hs e4 e7 e5 mn (decide_eq_true (by omega)) m0 (by omega) hq
          · rw [if_neg (by omega)]
            exact asks_elow K T N M H s w hs e4 e7 e5 mn (decide_eq_false (by omega))

end Go.Proofs.Ytcoaopcompngfaa
