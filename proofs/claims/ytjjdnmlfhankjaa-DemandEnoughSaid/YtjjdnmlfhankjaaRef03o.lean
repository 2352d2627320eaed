/- The contracts of garthref03.Of and Charge over this seat's translation. -/
import Derived.Test.YtjjdnmlfhankjaaRef03
namespace Go.Proofs.Ytjjdnmlfhankjaa
open Go.RowKit

attribute [local irreducible] smallT unitT kindT perT pagesT alignT chargeT


theorem refKind_neg (n : Int) (w : World) (h : n < 1) :
    Calls Try.prog 18 #[.int .i64 n] w fun e w' => e = .returned (.int .i64 (-1)) ∧ Below w.heap.size w w' := by
  go_enter Try.func18, Try.ntmps18
  go_wp2
  go_ret
  exact ⟨rfl, Below.refl _ _⟩

set_option maxHeartbeats 400000 in
theorem refKind_loop (n k : Int) (w : World) (h : 1 ≤ n) (hk : (8192 < n ∧ k = 24) ∨ (0 ≤ k ∧ k ≤ 23 ∧ n ≤ unitT k)) (hl : ∀ c, 0 ≤ c → c < k → unitT c < n) :
    Calls Try.prog 18 #[.int .i64 n] w fun e w' => e = .returned (.int .i64 (if k = 24 then -1 else k)) ∧ Below w.heap.size w w' := by
  have k0 : 0 ≤ k := by omega
  have k1 : k ≤ 24 := by omega
  have hk := Lib.hid hk
  replace hl := Lib.hid hl
  go_enter Try.func18, Try.ntmps18
  go_wp2
  go_loopw [3] (fun c wr => ∃ j : Int, 0 ≤ j ∧ j ≤ k ∧ c = .int .i64 j ∧ Below w.heap.size w wr) (fun c _ => (24 - intOf c).toNat)
  case atStart => exact ⟨0, by omega, by omega, rfl, Below.refl _ _⟩
  case round =>
    obtain ⟨j, j0, jk, rfl, hb⟩ := hrel
    by_cases hj : j < k
    · have h24 : j < 24 := by omega
      have hu := hl.out j j0 hj
      go_wp2_with fail
      refine (refUnit_any _ _).mono ?_; rintro e w1 ⟨rfl, hb1⟩
      go_wp2_with fail
      go_roundw
      case rel => exact ⟨j + 1, by omega, by omega, rfl, below_seq hb hb.size hb1⟩
      case measure => simp [intOf]; omega
    · obtain rfl : j = k := by omega
      by_cases he : j = 24
      · subst he
        go_wp2
        go_ret
        exact ⟨rfl, hb⟩
      · have hu : n ≤ unitT j := by have := hk.out; omega
        have h24 : j < 24 := by omega
        replace he := Lib.hid he
        go_wp2_with fail
        refine (refUnit_any _ _).mono ?_; rintro e w1 ⟨rfl, hb1⟩
        go_wp2_with fail
        go_ret
        exact ⟨rfl, below_seq hb hb.size hb1⟩

theorem refKind_any (n : Int) (w : World) :
    Calls Try.prog 18 #[.int .i64 n] w fun e w' => e = .returned (.int .i64 (kindT n)) ∧ Below w.heap.size w w' := by
  by_cases h : n < 1
  · rw [kind_out (Or.inl h)]; exact refKind_neg n w h
  · by_cases h' : 8192 < n
    · rw [kind_out (Or.inr h')]
      have := refKind_loop n 24 w (by omega) (Or.inl ⟨h', rfl⟩) (fun c _ _ => by have := unit_bound c; omega)
      rwa [if_pos rfl] at this
    · obtain ⟨a, b, c, d⟩ := unit_kind (n := n) (by omega) (by omega)
      have := refKind_loop n (kindT n) w (by omega) (Or.inr ⟨a, b, c⟩) d
      rwa [if_neg (by omega)] at this

theorem refCharge_any (n : Int) (w : World) :
    Calls Try.prog 19 #[.int .i64 n] w fun e w' => e = .returned (.int .i64 (chargeT n)) ∧ Below w.heap.size w w' := by
  by_cases h : n < 1 ∨ 8192 < n
  · rw [show chargeT n = unitT (kindT n) by unfold chargeT; rfl, kind_out h, unit_out (by omega)]
    have hk := Lib.hid (kind_out h)
    have hc : ∀ w, Calls Try.prog 18 #[.int .i64 n] w fun e w' => e = .returned (.int .i64 (-1)) ∧ Below w.heap.size w w' := by
      intro w; have := refKind_any n w; rwa [hk.out] at this
    replace hc := Lib.hid hc
    clear h
    go_enter Try.func19, Try.ntmps19
    go_wp2_with fail
    refine (hc.out _).mono ?_; rintro e w1 ⟨rfl, hb1⟩
    go_wp2_with fail
    go_ret
    exact ⟨rfl, hb1⟩
  · rw [show chargeT n = unitT (kindT n) by unfold chargeT; rfl]
    have hk : 0 ≤ kindT n := (unit_kind (n := n) (by omega) (by omega)).1
    clear h
    go_enter Try.func19, Try.ntmps19
    go_wp2_with fail
    refine (refKind_any _ _).mono ?_; rintro e w1 ⟨rfl, hb1⟩
    go_wp2_with fail
    refine (refKind_any _ _).mono ?_; rintro e w2 ⟨rfl, hb2⟩
    go_wp2_with fail
    refine (refUnit_any _ _).mono ?_; rintro e w3 ⟨rfl, hb3⟩
    go_wp2_with fail
    go_ret
    exact ⟨rfl, below_seq (below_seq hb1 hb1.size hb2) (Nat.le_trans hb1.size hb2.size) hb3⟩

end Go.Proofs.Ytjjdnmlfhankjaa
