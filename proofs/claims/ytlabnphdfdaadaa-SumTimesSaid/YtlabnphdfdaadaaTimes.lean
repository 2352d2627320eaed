/- The walk of SumTimes: so many times a sum is that sum added so often. -/
import Derived.Test.YtlabnphdfdaadaaAwk04
import Derived.Test.YtlabnphdfdaadaaSumt
import Derived.LoopTactic
namespace Go.Proofs.Ytlabnphdfdaadaa
open Go.RowKit Flt

theorem wrap_u64 (n : Int) : 0 ≤ IntKind.u64.wrap n := by
  have : IntKind.u64.wrap n = n % 18446744073709551616 := by
    unfold IntKind.wrap
    simp [show IntKind.u64.bits = 64 from rfl, show IntKind.u64.signed = false from rfl]
  rw [this]
  exact Int.emod_nonneg _ (by decide)

/-- One round more: what has been added so often. -/
theorem plus_step (a b : Int) (k : Nat) (w : World) (h1 : okS a b = true) (h2 : okS (a * k) (b * k) = true) (h3 : okS (a * (k + 1 : Nat)) (b * (k + 1 : Nat)) = true) :
    Calls Try.prog 12 #[.complex .f64 (F (a * k)) (F (b * k)), .complex .f64 (F a) (F b)] w fun e w' =>
      e = .returned (.tuple #[.complex .f64 (F (a * (k + 1 : Nat))) (F (b * (k + 1 : Nat))), .int .i64 0]) ∧ w' = w := by
  have e1 : a * (k + 1 : Nat) = a * k + a := by rw [Int.natCast_succ, Int.mul_add, Int.mul_one]
  have e2 : b * (k + 1 : Nat) = b * k + b := by rw [Int.natCast_succ, Int.mul_add, Int.mul_one]
  rw [e1, e2] at h3 ⊢
  exact plus_yes _ _ _ _ w h2 h1 h3

theorem plus_over (a b : Int) (k : Nat) (w : World) (h1 : okS a b = true) (h2 : okS (a * k) (b * k) = true) (h3 : okS (a * (k + 1 : Nat)) (b * (k + 1 : Nat)) = false) :
    Calls Try.prog 12 #[.complex .f64 (F (a * k)) (F (b * k)), .complex .f64 (F a) (F b)] w fun e w' =>
      e = .returned (.tuple #[.complex .f64 0 0, .int .i64 12]) ∧ w' = w := by
  have e1 : a * (k + 1 : Nat) = a * k + a := by rw [Int.natCast_succ, Int.mul_add, Int.mul_one]
  have e2 : b * (k + 1 : Nat) = b * k + b := by rw [Int.natCast_succ, Int.mul_add, Int.mul_one]
  rw [e1, e2] at h3
  exact plus_no _ _ _ _ w h2 h1 h3

theorem ok_less {a b : Int} {k m : Nat} (h : okS a b = true) (hk : k ≤ m) (hm : okS (a * m) (b * m) = true) : okS (a * k) (b * k) = true := by
  have h0 := okS_iff.1 h
  have h1 := okS_iff.1 hm
  have hk' : (k : Int) ≤ m := by omega
  have l1 := Int.mul_le_mul_of_nonneg_left hk' h0.1
  have l2 := Int.mul_le_mul_of_nonneg_left hk' h0.2.2.1
  rw [okS_iff]
  exact ⟨Int.mul_nonneg h0.1 (by omega), by omega, Int.mul_nonneg h0.2.2.1 (by omega), by omega⟩

/-- Times, its outcome known. -/
theorem times_yes (a b : Int) (m : Nat) (w : World) (h : okS a b = true) (hm : m < 200) (h2 : okS (a * m) (b * m) = true) :
    Calls Try.prog 21 #[.complex .f64 (F a) (F b), .int .i64 m] w fun e w' =>
      e = .returned (.tuple #[.complex .f64 (F (a * m)) (F (b * m)), .int .i64 0]) ∧ w' = w := by
  have := times_F a b m w h
  unfold tB tP tE at this
  obtain ⟨e1, e2, e3⟩ := r_yes h2
  rw [if_pos (by omega), if_pos (by omega), if_pos (by omega), e1, e2, e3] at this
  exact this

theorem times_no (a b : Int) (m : Nat) (w : World) (h : okS a b = true) (hm : m < 200) (h2 : okS (a * m) (b * m) = false) :
    Calls Try.prog 21 #[.complex .f64 (F a) (F b), .int .i64 m] w fun e w' =>
      e = .returned (.tuple #[.complex .f64 0 0, .int .i64 12]) ∧ w' = w := by
  have := times_F a b m w h
  unfold tB tP tE at this
  obtain ⟨e1, e2, e3⟩ := r_no h2
  rw [if_pos (by omega), if_pos (by omega), if_pos (by omega), e1, e2, e3, F_zero] at this
  exact this

theorem times_n (n : Int) : ∃ m : Nat, wrap64 ((IntKind.u64.wrap n).tmod 200) = m ∧ m < 200 := by
  have h0 : 0 ≤ IntKind.u64.wrap n := wrap_u64 n
  have h1 : 0 ≤ (IntKind.u64.wrap n).tmod 200 := Int.tmod_nonneg _ h0
  have h2 : (IntKind.u64.wrap n).tmod 200 < 200 := Int.tmod_lt_of_pos _ (by decide)
  refine ⟨((IntKind.u64.wrap n).tmod 200).toNat, ?_, by omega⟩
  generalize (IntKind.u64.wrap n).tmod 200 = x at *
  unfold wrap64
  omega

set_option maxHeartbeats 400000 in
theorem sumTimes_walk (a b n : Int) (w : World) :
    Calls Try.prog 7 #[.int .i64 a, .int .i64 b, .int .i64 n] w fun e w' => e = .returned (.bool true) ∧ w' = w := by
  cases h1 : okS a b with
  | false =>
    replace h1 := Lib.hid h1
    go_enter Try.func7, Try.ntmps7
    go_wp2_with fail
    refine (of_no' a b _ h1.out).mono ?_; rintro e w' ⟨rfl, rfl⟩
    go_wp2_with (go_at_call 11; refine (awake_any _).mono ?_; rintro e w' ⟨rfl, rfl⟩)
    go_ret
    exact ⟨rfl, rfl⟩
  | true =>
    replace h1 := Lib.hid h1
    go_enter Try.func7, Try.ntmps7
    go_wp2_with fail
    refine (of_yes' a b _ h1.out).mono ?_; rintro e w' ⟨rfl, rfl⟩
    go_wp2_with fail
    refine (awake_any _).mono ?_; rintro e w' ⟨rfl, rfl⟩
    go_wp2_with fail
    obtain ⟨m, hm, hlt⟩ := times_n n
    rw [hm]
    clear hm
    cases h2 : okS (a * m) (b * m) with
    | true =>
      have he := eql_FF h2 h2
      rw [show decide (a * (m : Int) = a * m ∧ b * (m : Int) = b * m) = true by simp] at he
      replace h2 := Lib.hid h2
      refine (times_yes a b m _ h1.out hlt h2.out).mono ?_; rintro e w' ⟨rfl, rfl⟩
      go_wp2_with fail
      refine (of_yes' 0 0 _ (ok_lit (by omega))).mono ?_; rintro e w' ⟨rfl, rfl⟩
      go_wp2_with fail
      go_loop [11, 12, 41] (fun al g i => ∃ k : Nat, k ≤ m ∧ i = .int .i64 k ∧ g = .int .i64 0 ∧ al = .complex .f64 (F (a * k)) (F (b * k))) (fun _ _ i => m - (intOf i).toNat)
      case atStart => exact ⟨0, Nat.zero_le _, rfl, rfl, by simp⟩
      case round =>
        obtain ⟨k, hk, rfl, rfl, rfl⟩ := hrel
        by_cases hkm : k < m
        · go_wp2_with fail
          refine (plus_step a b k _ h1.out (ok_less h1.out hk h2.out) (ok_less h1.out hkm h2.out)).mono ?_; rintro e w' ⟨rfl, rfl⟩
          go_wp2_with fail
          go_round
          case rel => exact ⟨k + 1, hkm, by go_num, rfl, rfl⟩
          case measure => simp [intOf]; omega
        · obtain rfl : k = m := by omega
          go_wp2
          go_ret
          exact ⟨rfl, rfl⟩
    | false =>
      have hz : (FloatKind.f64.format.order 0 0 == some .eq) = true := by decide
      replace h2 := Lib.hid h2
      refine (times_no a b m _ h1.out hlt h2.out).mono ?_; rintro e w' ⟨rfl, rfl⟩
      go_wp2_with fail
      refine (of_yes' 0 0 _ (ok_lit (by omega))).mono ?_; rintro e w' ⟨rfl, rfl⟩
      go_wp2_with fail
      go_loop [11, 12, 41] (fun al g i => ∃ k : Nat, k ≤ m ∧ i = .int .i64 k ∧ g = .int .i64 0 ∧ al = .complex .f64 (F (a * k)) (F (b * k)) ∧ okS (a * k) (b * k) = true) (fun _ _ i => m - (intOf i).toNat)
      case atStart => exact ⟨0, Nat.zero_le _, rfl, rfl, by simp, by simp; exact ok_lit (by omega)⟩
      case round =>
        obtain ⟨k, hk, rfl, rfl, rfl, hok⟩ := hrel
        by_cases hkm : k < m
        · cases h3 : okS (a * (k + 1 : Nat)) (b * (k + 1 : Nat)) with
          | true =>
            replace hok := Lib.hid hok
            replace h3 := Lib.hid h3
            go_wp2_with fail
            refine (plus_step a b k _ h1.out hok.out h3.out).mono ?_; rintro e w' ⟨rfl, rfl⟩
            go_wp2_with fail
            go_round
            case rel => exact ⟨k + 1, hkm, by go_num, rfl, rfl, h3.out⟩
            case measure => simp [intOf]; omega
          | false =>
            replace hok := Lib.hid hok
            replace h3 := Lib.hid h3
            go_wp2_with fail
            refine (plus_over a b k _ h1.out hok.out h3.out).mono ?_; rintro e w' ⟨rfl, rfl⟩
            go_wp2_with fail
            go_ret
            exact ⟨rfl, rfl⟩
        · obtain rfl : k = m := by omega
          have := h2.out
          rw [this] at hok
          cases hok

end Go.Proofs.Ytlabnphdfdaadaa
