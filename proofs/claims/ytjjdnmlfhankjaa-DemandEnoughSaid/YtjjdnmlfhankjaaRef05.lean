/- The contracts of the reference's quotas (package garthref05). -/
import Derived.Test.YtjjdnmlfhankjaaDem
import Derived.Test.YtjjdnmlfhankjaaRef03p
namespace Go.Proofs.Ytjjdnmlfhankjaa
open Go.RowKit
set_option linter.unusedVariables false

attribute [local irreducible] smallT unitT kindT perT pagesT alignT chargeT

theorem refMay_any (q : Int) (w : World) :
    Calls Try.prog 9 #[.int .i64 q] w fun e w' => e = .returned (.bool (mayB q)) ∧ w' = w := by
  unfold mayB
  by_cases h : 1 ≤ q
  · rw [decide_eq_true h, Bool.true_and]
    go_enter Try.func9, Try.ntmps9
    go_wp2
    go_ret
    exact ⟨rfl, rfl⟩
  · rw [decide_eq_false h, Bool.false_and]
    have h' : q < 1 := by omega
    clear h
    go_enter Try.func9, Try.ntmps9
    go_wp2
    go_ret
    exact ⟨rfl, rfl⟩

theorem by_step {c q : Int} (h0 : 0 ≤ c) (h1 : c ≤ 7) (h : mayB q = true) {n : Int} (n0 : 0 ≤ n) (hn : n ≤ byT c q) :
    0 ≤ n * perT c ∧ n * perT c ≤ 131072 ∧ (n < byT c q → n * perT c < q / unitT c) ∧ (n = byT c q → q / unitT c ≤ n * perT c) := by
  obtain ⟨b0, b1, b2, b3, b4, b5⟩ := by_ceil h0 h1 h
  obtain ⟨p0, p1⟩ := per_pos h0 h1
  have m1 : n * perT c ≤ 4096 * 32 := Int.mul_le_mul (by omega) p1 (by omega) (by omega)
  refine ⟨Int.mul_nonneg n0 (by omega), m1, fun g => ?_, fun g => by rw [g]; exact b2⟩
  have : n * perT c ≤ (byT c q - 1) * perT c := Int.mul_le_mul_of_nonneg_right (by omega) (by omega)
  rw [if_neg (by omega)] at b3
  omega

theorem refBy_any (c q : Int) (w : World) :
    Calls Try.prog 12 #[.int .i64 c, .int .i64 q] w fun e w' => e = .returned (.int .i64 (byT c q)) ∧ Below w.heap.size w w' := by
  by_cases hc : c < 0
  · rw [by_zero (.inl (per_out (.inl hc)))]
    go_enter Try.func12, Try.ntmps12
    go_wp2
    go_ret
    exact ⟨rfl, Below.refl _ _⟩
  have h0 : 0 ≤ c := by omega
  clear hc
  by_cases hc : 7 < c
  · rw [by_zero (.inl (per_out (.inr hc)))]
    go_enter Try.func12, Try.ntmps12
    go_wp2
    go_ret
    exact ⟨rfl, Below.refl _ _⟩
  have h1 : c ≤ 7 := by omega
  clear hc
  cases h : mayB q with
  | false =>
    rw [by_zero (.inr h)]
    go_enter Try.func12, Try.ntmps12
    go_wp2_with fail
    refine (refMay_any _ _).mono ?_; rintro e w' ⟨rfl, hw⟩; obtain rfl := hw.symm
    clear hw
    go_wp2_with fail
    go_ret
    exact ⟨rfl, Below.refl _ _⟩
  | true =>
    obtain ⟨a, b⟩ := may_iff.1 h
    have u2 : 16 ≤ unitT c := by have := per_unit h0 h1; omega
    have H := Lib.hid h
    have hB := by_bound c q
    go_enter Try.func12, Try.ntmps12
    go_wp2_with fail
    refine (refMay_any _ _).mono ?_; rintro e w' ⟨rfl, hw⟩; obtain rfl := hw.symm
    clear hw
    go_wp2_with fail
    refine (refUnit_any _ _).mono ?_; rintro e w1 ⟨rfl, hb⟩
    go_wp2_with fail
    go_loopw [6] (fun v wr => ∃ n : Nat, (n : Int) ≤ byT c q ∧ v = .int .i64 n ∧ Below w.heap.size w wr) (fun v _ => 4096 - (intOf v).toNat)
    case atStart => exact ⟨0, by omega, rfl, hb⟩
    case round =>
      clear hb
      obtain ⟨n, hn, rfl, hb⟩ := hrel
      obtain ⟨g0, g1, g2, g3⟩ := by_step h0 h1 H.out (n := n) (by omega) hn
      by_cases hlt : (n : Int) < byT c q
      · have d1 : decide ((n : Int) * perT c < q / unitT c) = true := decide_eq_true (g2 hlt)
        have hn1 : ((n + 1 : Nat) : Int) ≤ byT c q := by omega
        have hm : (n : Int) < 4096 := by omega
        replace hn1 := Lib.hid hn1
        clear g2 g3 hlt hn
        go_wp2_with fail
        refine (refPer_any _ _).mono ?_; rintro e w2 ⟨rfl, hb2⟩
        go_wp2_with fail
        go_roundw
        case rel => exact ⟨n + 1, hn1.out, by go_num, below_s hb hb2⟩
        case measure => simp [intOf]; omega
      · have he : (n : Int) = byT c q := by omega
        have d1 : decide ((n : Int) * perT c < q / unitT c) = false := decide_eq_false (by have := g3 he; omega)
        replace he := Lib.hid he
        rename_i he'
        clear g2 g3 hlt hn
        go_wp2_with fail
        refine (refPer_any _ _).mono ?_; rintro e w2 ⟨rfl, hb2⟩
        go_wp2_with fail
        go_ret
        exact ⟨by rw [he.out]; rfl, below_s hb hb2⟩

theorem refPages05_any (q : Int) (w : World) :
    Calls Try.prog 14 #[.int .i64 q] w fun e w' => e = .returned (.int .i64 (demT q)) ∧ Below w.heap.size w w' := by
  have hr := runs_bound q
  go_enter Try.func14, Try.ntmps14
  go_wp2_with fail
  go_loopw [3, 4] (fun x i wr => ∃ k : Nat, k ≤ 8 ∧ i = .int .i64 k ∧ x = .int .i64 (sumBy q k) ∧ Below w.heap.size w wr) (fun _ i _ => 8 - (intOf i).toNat)
  case atStart => exact ⟨0, by omega, rfl, rfl, Below.refl _ _⟩
  case round =>
    obtain ⟨k, hk, rfl, rfl, hb⟩ := hrel
    obtain ⟨s0, s1⟩ := sumBy_bound q k hk
    by_cases hlt : k < 8
    · obtain ⟨y0, y1⟩ := by_bound k q
      go_wp2_with fail
      refine (refBy_any _ _ _).mono ?_; rintro e w1 ⟨rfl, hb1⟩
      go_wp2_with fail
      go_roundw
      case rel => exact ⟨k + 1, by omega, by go_num, rfl, below_s hb hb1⟩
      case measure => simp [intOf]; omega
    · obtain rfl : k = 8 := by omega
      cases h : mayB q with
      | true =>
        obtain ⟨a, b⟩ := may_iff.1 h
        have hd : demT q = sumBy q 8 + q / 512 := by unfold demT; rw [runs_in h]
        replace hd := Lib.hid hd
        skip
        go_wp2_with fail
        refine (refMay_any _ _).mono ?_; rintro e w' ⟨rfl, hw⟩; obtain rfl := hw.symm
        clear hw
        go_wp2_with fail
        go_ret
        exact ⟨by rw [hd.out]; rfl, hb⟩
      | false =>
        have hd : demT q = sumBy q 8 := by unfold demT; rw [runs_out h]; omega
        replace hd := Lib.hid hd
        skip
        go_wp2_with fail
        refine (refMay_any _ _).mono ?_; rintro e w' ⟨rfl, hw⟩; obtain rfl := hw.symm
        clear hw
        go_wp2_with fail
        go_ret
        exact ⟨by rw [hd.out]; rfl, hb⟩

end Go.Proofs.Ytjjdnmlfhankjaa
