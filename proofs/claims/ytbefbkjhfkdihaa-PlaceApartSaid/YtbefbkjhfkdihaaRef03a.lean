/- The contract of garthref03.Align over this seat's translation. -/
import Derived.Test.YtbefbkjhfkdihaaRef03
namespace Go.Proofs.Ytbefbkjhfkdihaa
open Go.RowKit

attribute [local irreducible] smallT unitT kindT perT pagesT alignT chargeT


theorem refAlign_out (c : Int) (w : World) (hc : c < 0 ∨ 23 < c) :
    Calls Try.prog 17 #[.int .i64 c] w fun e w' => e = .returned (.int .i64 0) ∧ Below w.heap.size w w' := by
  rcases hc with hc | hc
  · go_enter Try.func17, Try.ntmps17
    go_wp2
    go_ret
    exact ⟨rfl, Below.refl _ _⟩
  · have h0 : 0 ≤ c := by omega
    go_enter Try.func17, Try.ntmps17
    go_wp2
    go_ret
    exact ⟨rfl, Below.refl _ _⟩

set_option maxHeartbeats 400000 in
theorem refAlign_in (c : Int) (w : World) (h0 : 0 ≤ c) (h1 : c ≤ 23) :
    Calls Try.prog 17 #[.int .i64 c] w fun e w' => e = .returned (.int .i64 (alignT c)) ∧ Below w.heap.size w w' := by
  have hp := Lib.hid (align_pos h0 h1)
  have hu := unit_bound c
  have hu0 := hu.1
  have hu1 := hu.2
  clear hu
  go_enter Try.func17, Try.ntmps17
  go_wp2
  go_loopw [3] (fun s wr => ∃ a : Nat, a ∈ pows ∧ (a : Int) ≤ alignT c ∧ s = .int .i64 a ∧ Below w.heap.size w wr) (fun s _ => 512 - (intOf s).toNat)
  case atStart => exact ⟨1, by decide, by have := hp.out.1; omega, rfl, Below.refl _ _⟩
  case round =>
    obtain ⟨a, ha, hl, rfl, hb⟩ := hrel
    have hs := pow_step h0 h1 ha hl
    have h3 := pow_le ha
    have h3a := h3.1
    have h3b := h3.2
    clear h3
    by_cases hlt : (a : Int) < alignT c
    · obtain ⟨g1, g2, g3, g4⟩ := hs.1 hlt
      have e1 : (unitT c % (2 * (a : Int)) == 0) = true := by rw [g2]; rfl
      have d1 : decide ((a : Int) < 512) = true := decide_eq_true (by omega)
      replace g2 := Lib.hid g2
      replace g3 := Lib.hid g3
      replace g4 := Lib.hid g4
      clear hs hlt hl
      replace ha := Lib.hid ha
      go_wp2_with fail
      refine (refUnit_any _ _).mono ?_; rintro e w1 ⟨rfl, hb1⟩
      go_wp2_with fail
      go_roundw
      case rel => exact ⟨2 * a, g3.out, g4.out, by go_num, below_seq hb hb.size hb1⟩
      case measure => simp [intOf]; omega
    · have he : (a : Int) = alignT c := by omega
      have g := hs.2 he
      clear hs hlt hl
      replace he := Lib.hid he
      replace ha := Lib.hid ha
      by_cases h5 : a < 512
      · have e1 : (unitT c % (2 * (a : Int)) == 0) = false := beq_eq_false_iff_ne.2 (g h5)
        have d1 : decide ((a : Int) < 512) = true := decide_eq_true (by omega)
        clear g
        go_wp2_with fail
        refine (refUnit_any _ _).mono ?_; rintro e w1 ⟨rfl, hb1⟩
        go_wp2_with fail
        go_ret
        exact ⟨ret_eq he.out, below_seq hb hb.size hb1⟩
      · have d1 : decide ((a : Int) < 512) = false := decide_eq_false (by omega)
        clear g
        go_wp2_with fail
        go_ret
        exact ⟨ret_eq he.out, hb⟩

theorem refAlign_any (c : Int) (w : World) :
    Calls Try.prog 17 #[.int .i64 c] w fun e w' => e = .returned (.int .i64 (alignT c)) ∧ Below w.heap.size w w' := by
  by_cases hc : c < 0 ∨ 23 < c
  · rw [align_out hc]; exact refAlign_out c w hc
  · exact refAlign_in c w (by omega) (by omega)

end Go.Proofs.Ytbefbkjhfkdihaa
