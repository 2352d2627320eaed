/- The contract of sum.Total over this seat's translation, at sums of whole parts. -/
import Derived.Test.YtmgcaljaaemoaaaSumw
import Derived.Test.YtmgcaljaaemoaaaBase
import Derived.LoopTactic
namespace Go.Proofs.Ytmgcaljaaemoaaa
open Go.RowKit Flt

/-- What sums come to, part by part. -/
def sumA : List (Int × Int) → Int
  | [] => 0
  | x :: r => x.1 + sumA r
def sumC : List (Int × Int) → Int
  | [] => 0
  | x :: r => x.2 + sumC r

theorem take_succ {xs : List (Int × Int)} {k : Nat} (h : k < xs.length) : sumA (xs.take (k + 1)) = sumA (xs.take k) + (xs[k]).1 ∧ sumC (xs.take (k + 1)) = sumC (xs.take k) + (xs[k]).2 := by
  induction xs generalizing k with
  | nil => simp at h
  | cons x r ih =>
    cases k with
    | zero => simp [sumA, sumC]
    | succ k =>
      have := ih (k := k) (by simpa using h)
      simp only [List.take_succ_cons, sumA, sumC, List.getElem_cons_succ]
      rw [this.1, this.2]
      exact ⟨by omega, by omega⟩

theorem sum_nonneg {xs : List (Int × Int)} (hok : ∀ x ∈ xs, okS x.1 x.2 = true) : 0 ≤ sumA xs ∧ 0 ≤ sumC xs := by
  induction xs with
  | nil => exact ⟨Int.le_refl _, Int.le_refl _⟩
  | cons x r ih =>
    have h := okS_iff.1 (hok x (List.mem_cons_self ..))
    have := ih (fun y hy => hok y (List.mem_cons_of_mem _ hy))
    simp only [sumA, sumC]
    exact ⟨by omega, by omega⟩

theorem sum_take_le {xs : List (Int × Int)} (hok : ∀ x ∈ xs, okS x.1 x.2 = true) (k : Nat) : sumA (xs.take k) ≤ sumA xs ∧ sumC (xs.take k) ≤ sumC xs := by
  induction xs generalizing k with
  | nil => simp
  | cons x r ih =>
    cases k with
    | zero => have := sum_nonneg hok; simpa [sumA, sumC] using this
    | succ k =>
      have := ih (fun y hy => hok y (List.mem_cons_of_mem _ hy)) k
      simp only [List.take_succ_cons, sumA, sumC]
      exact ⟨by omega, by omega⟩

theorem total_over {xs : List (Int × Int)} (hok : ∀ x ∈ xs, okS x.1 x.2 = true) {k : Nat} (h : okS (sumA (xs.take k)) (sumC (xs.take k)) = false) : okS (sumA xs) (sumC xs) = false := by
  have h0 := sum_nonneg (xs := xs.take k) (fun x hx => hok x (List.mem_of_mem_take hx))
  have h1 := sum_take_le hok k
  rw [← Bool.not_eq_true, okS_iff] at h ⊢
  intro g
  exact h ⟨by omega, by omega, by omega, by omega⟩

theorem plus_at {xs : List (Int × Int)} {k : Nat} (h : k < xs.length) (hok : okS (xs[k]).1 (xs[k]).2 = true) (hk : okS (sumA (xs.take k)) (sumC (xs.take k)) = true) (w : World) :
    Calls Try.prog 17 #[.complex .f64 (F (sumA (xs.take k))) (F (sumC (xs.take k))), .complex .f64 (F (xs[k]).1) (F (xs[k]).2)] w fun e w' =>
      e = .returned (.tuple #[.complex .f64 (F (rB (sumA (xs.take (k + 1))) (sumC (xs.take (k + 1))))) (F (rP (sumA (xs.take (k + 1))) (sumC (xs.take (k + 1))))), .int .i64 (rE (sumA (xs.take (k + 1))) (sumC (xs.take (k + 1))))]) ∧ w' = w := by
  rw [(take_succ h).1, (take_succ h).2]
  exact plus_F _ _ _ _ w hk hok

theorem plus_at_yes {xs : List (Int × Int)} {k : Nat} (h : k < xs.length) (hok : okS (xs[k]).1 (xs[k]).2 = true) (hk : okS (sumA (xs.take k)) (sumC (xs.take k)) = true) (h' : okS (sumA (xs.take (k + 1))) (sumC (xs.take (k + 1))) = true) (w : World) :
    Calls Try.prog 17 #[.complex .f64 (F (sumA (xs.take k))) (F (sumC (xs.take k))), .complex .f64 (F (xs[k]).1) (F (xs[k]).2)] w fun e w' =>
      e = .returned (.tuple #[.complex .f64 (F (sumA (xs.take (k + 1)))) (F (sumC (xs.take (k + 1)))), .int .i64 0]) ∧ w' = w := by
  have := plus_at h hok hk w
  obtain ⟨e1, e2, e3⟩ := r_yes h'
  rwa [e1, e2, e3] at this

theorem plus_at_no {xs : List (Int × Int)} {k : Nat} (h : k < xs.length) (hok : okS (xs[k]).1 (xs[k]).2 = true) (hk : okS (sumA (xs.take k)) (sumC (xs.take k)) = true) (h' : okS (sumA (xs.take (k + 1))) (sumC (xs.take (k + 1))) = false) (w : World) :
    Calls Try.prog 17 #[.complex .f64 (F (sumA (xs.take k))) (F (sumC (xs.take k))), .complex .f64 (F (xs[k]).1) (F (xs[k]).2)] w fun e w' =>
      e = .returned (.tuple #[.complex .f64 0 0, .int .i64 12]) ∧ w' = w := by
  have := plus_at h hok hk w
  obtain ⟨e1, e2, e3⟩ := r_no h'
  rwa [e1, e2, e3, F_zero] at this

set_option maxHeartbeats 400000 in
theorem total_nil (c : Nat) (A : Option Addr) (w : World) :
    Calls Try.prog 27 #[.slice A 0 c] w fun e w' => e = .returned (.tuple #[.complex .f64 0 0, .int .i64 0]) ∧ w' = w := by
  go_enter Try.func27, Try.ntmps27
  go_wp2
  go_loop [4, 11] (fun s i => s = .complex .f64 0 0 ∧ i = .int .i64 0) (fun _ _ => 0)
  case atStart => exact ⟨rfl, rfl⟩
  case round =>
    obtain ⟨rfl, rfl⟩ := hrel
    go_wp2
    go_ret2
    exact ⟨rfl, rfl⟩

set_option maxHeartbeats 1000000 in
theorem total_F (b off n c : Nat) (xs : List (Int × Int)) (w : World) (hn : xs.length = n) (hmax : n ≤ 1000000)
    (hok : ∀ x ∈ xs, okS x.1 x.2 = true)
    (hcell : ∀ i (h : i < xs.length), w.cell? ⟨b, off + i, none⟩ = some (.complex .f64 (F (xs[i]).1) (F (xs[i]).2))) :
    Calls Try.prog 27 #[.slice (some ⟨b, off, none⟩) n c] w fun e w' => e = .returned (.tuple #[.complex .f64 (F (rB (sumA xs) (sumC xs))) (F (rP (sumA xs) (sumC xs))), .int .i64 (rE (sumA xs) (sumC xs))]) ∧ w' = w := by
  subst hn
  replace hcell := Lib.hid hcell
  replace hok := Lib.hid hok
  go_enter Try.func27, Try.ntmps27
  go_wp2
  go_loop [4, 11] (fun s i => ∃ k : Nat, k ≤ xs.length ∧ i = .int .i64 k ∧ s = .complex .f64 (F (sumA (xs.take k))) (F (sumC (xs.take k))) ∧ okS (sumA (xs.take k)) (sumC (xs.take k)) = true) (fun _ i => xs.length - (intOf i).toNat)
  case atStart => exact ⟨0, Nat.zero_le _, rfl, by simp [sumA, sumC, F_zero], by simp [sumA, sumC]; exact ok_lit (by omega)⟩
  case round =>
    obtain ⟨k, hk, rfl, rfl, hs⟩ := hrel
    by_cases hlt : k < xs.length
    · have hc := hcell.out k hlt
      have hx := Lib.hid (hok.out xs[k] (List.getElem_mem hlt))
      cases h' : okS (sumA (xs.take (k + 1))) (sumC (xs.take (k + 1))) with
      | true =>
        have hp := Lib.hid (fun w => plus_at_yes hlt hx.out hs h' w)
        replace hs := Lib.hid hs
        replace h' := Lib.hid h'
        go_wp2_with fail
        refine (hp.out _).mono ?_; rintro e w' ⟨rfl, hw⟩; obtain rfl := hw.symm
        go_wp2_with fail
        go_round
        case rel => exact ⟨k + 1, by omega, by go_num, rfl, h'.out⟩
        case measure => simp [intOf]; omega
      | false =>
        have hp := Lib.hid (fun w => plus_at_no hlt hx.out hs h' w)
        have hfin := total_over hok.out h'
        obtain ⟨e1, e2, e3⟩ := r_no hfin
        have E := Lib.hid (And.intro e1 (And.intro e2 e3))
        clear e1 e2 e3 hfin
        replace hs := Lib.hid hs
        replace h' := Lib.hid h'
        go_wp2_with fail
        refine (hp.out _).mono ?_; rintro e w' ⟨rfl, hw⟩; obtain rfl := hw.symm
        go_wp2_with fail
        go_ret2
        rw [E.out.1, E.out.2.1, E.out.2.2, F_zero]
        exact ⟨rfl, rfl⟩
    · obtain rfl : k = xs.length := by omega
      rw [List.take_length] at hs ⊢
      obtain ⟨e1, e2, e3⟩ := r_yes hs
      have E := Lib.hid (And.intro e1 (And.intro e2 e3))
      clear e1 e2 e3 hs
      go_wp2
      go_ret2
      rw [E.out.1, E.out.2.1, E.out.2.2]
      exact ⟨rfl, rfl⟩

end Go.Proofs.Ytmgcaljaaemoaaa
