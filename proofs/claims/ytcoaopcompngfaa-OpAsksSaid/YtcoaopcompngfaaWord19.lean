/- The contracts of op.Word, op.Kind, and of the reference's. -/
import Derived.Test.YtcoaopcompngfaaOp19
import Derived.WalkMore
import Derived.ScopeJumps
namespace Go.Proofs.Ytcoaopcompngfaa
open Go.RowKit
set_option linter.unusedVariables false

def wordT (k : Int) : ByteArray := if k = 1 then ⟨#[99, 114, 101, 97, 116, 101]⟩ else if k = 2 then ⟨#[114, 101, 115, 105, 122, 101]⟩ else if k = 3 then ⟨#[100, 101, 115, 116, 114, 111, 121]⟩ else if k = 4 then ⟨#[109, 97, 108, 108, 111, 99]⟩ else if k = 5 then ⟨#[99, 97, 108, 108, 111, 99]⟩ else if k = 6 then ⟨#[102, 114, 101, 101]⟩ else if k = 7 then ⟨#[114, 101, 97, 108, 108, 111, 99]⟩ else if k = 8 then ⟨#[117, 115, 97, 98, 108, 101]⟩ else if k = 9 then ⟨#[114, 101, 97, 100]⟩ else if k = 10 then ⟨#[119, 114, 105, 116, 101]⟩ else if k = 11 then ⟨#[114, 101, 115, 116, 114, 105, 99, 116]⟩ else ⟨#[]⟩
theorem word_1 : wordT 1 = ⟨#[99, 114, 101, 97, 116, 101]⟩ := rfl
theorem word_2 : wordT 2 = ⟨#[114, 101, 115, 105, 122, 101]⟩ := rfl
theorem word_3 : wordT 3 = ⟨#[100, 101, 115, 116, 114, 111, 121]⟩ := rfl
theorem word_4 : wordT 4 = ⟨#[109, 97, 108, 108, 111, 99]⟩ := rfl
theorem word_5 : wordT 5 = ⟨#[99, 97, 108, 108, 111, 99]⟩ := rfl
theorem word_6 : wordT 6 = ⟨#[102, 114, 101, 101]⟩ := rfl
theorem word_7 : wordT 7 = ⟨#[114, 101, 97, 108, 108, 111, 99]⟩ := rfl
theorem word_8 : wordT 8 = ⟨#[117, 115, 97, 98, 108, 101]⟩ := rfl
theorem word_9 : wordT 9 = ⟨#[114, 101, 97, 100]⟩ := rfl
theorem word_10 : wordT 10 = ⟨#[119, 114, 105, 116, 101]⟩ := rfl
theorem word_11 : wordT 11 = ⟨#[114, 101, 115, 116, 114, 105, 99, 116]⟩ := rfl
theorem word_out {k : Int} (h : k < 1 ∨ 11 < k) : wordT k = ⟨#[]⟩ := by
  unfold wordT
  rw [if_neg (by omega)]; rw [if_neg (by omega)]; rw [if_neg (by omega)]; rw [if_neg (by omega)]; rw [if_neg (by omega)]; rw [if_neg (by omega)]; rw [if_neg (by omega)]; rw [if_neg (by omega)]; rw [if_neg (by omega)]; rw [if_neg (by omega)]; rw [if_neg (by omega)]
theorem cases11 {k : Int} (h0 : 1 ≤ k) (h1 : k ≤ 11) : k = 1 ∨ k = 2 ∨ k = 3 ∨ k = 4 ∨ k = 5 ∨ k = 6 ∨ k = 7 ∨ k = 8 ∨ k = 9 ∨ k = 10 ∨ k = 11 := by omega
def hit (s : ByteArray) (k : Int) : Bool := (wordT k).toList == s.toList
def kindW (s : ByteArray) : Int := if hit s 1 = true then 1 else if hit s 2 = true then 2 else if hit s 3 = true then 3 else if hit s 4 = true then 4 else if hit s 5 = true then 5 else if hit s 6 = true then 6 else if hit s 7 = true then 7 else if hit s 8 = true then 8 else if hit s 9 = true then 9 else if hit s 10 = true then 10 else if hit s 11 = true then 11 else 0
theorem kindW_hit {s : ByteArray} {k : Int} (h0 : 1 ≤ k) (h1 : k ≤ 11) (h : hit s k = true) (hl : ∀ j, 1 ≤ j → j < k → hit s j = false) : kindW s = k := by
  have no : ∀ j, 1 ≤ j → j < k → ¬ hit s j = true := fun j a b => by rw [hl j a b]; decide
  unfold kindW
  rcases cases11 h0 h1 with rfl | rfl | rfl | rfl | rfl | rfl | rfl | rfl | rfl | rfl | rfl
  all_goals
    repeat (first | rw [if_pos h] | rw [if_neg (no _ (by omega) (by omega))])
theorem kindW_none {s : ByteArray} (hl : ∀ j, 1 ≤ j → j ≤ 11 → hit s j = false) : kindW s = 0 := by
  have no : ∀ j, 1 ≤ j → j ≤ 11 → ¬ hit s j = true := fun j a b => by rw [hl j a b]; decide
  unfold kindW
  repeat rw [if_neg (no _ (by omega) (by omega))]
theorem kindW_back {k : Int} (h0 : 1 ≤ k) (h1 : k ≤ 11) : kindW (wordT k) = k := by
  rcases cases11 h0 h1 with rfl | rfl | rfl | rfl | rfl | rfl | rfl | rfl | rfl | rfl | rfl <;> decide +kernel
theorem word_full {k : Int} (h0 : 1 ≤ k) (h1 : k ≤ 11) : (wordT k).toList.isEmpty = false ∧ (wordT k).size ≤ 8 := by
  rcases cases11 h0 h1 with rfl | rfl | rfl | rfl | rfl | rfl | rfl | rfl | rfl | rfl | rfl <;> decide +kernel

theorem opWord_any (k : Int) (w : World) :
    Calls Try.prog 12 #[.int .i64 k] w fun e w' => e = .returned (.string (wordT k)) ∧ w' = w := by
  by_cases h : k < 1 ∨ 11 < k
  · rw [word_out h]
    rcases h with h | h
    all_goals
      go_enter Try.func12, Try.ntmps12
      go_wp2
      go_ret
      exact ⟨rfl, rfl⟩
  · rcases cases11 (k := k) (by omega) (by omega) with rfl | rfl | rfl | rfl | rfl | rfl | rfl | rfl | rfl | rfl | rfl
    all_goals
      first | rw [word_1] | rw [word_2] | rw [word_3] | rw [word_4] | rw [word_5] | rw [word_6] | rw [word_7] | rw [word_8] | rw [word_9] | rw [word_10] | rw [word_11]
      clear h
      go_enter Try.func12, Try.ntmps12
      go_wp2
      go_ret
      exact ⟨rfl, rfl⟩

set_option maxHeartbeats 1000000 in
theorem refWord_any (k : Int) (w : World) :
    Calls Try.prog 13 #[.int .i64 k] w fun e w' => e = .returned (.string (wordT k)) ∧ Below w.heap.size w w' := by
  by_cases h : k < 1 ∨ 11 < k
  · rw [word_out h]
    rcases h with h | h
    · go_enter Try.func13, Try.ntmps13
      go_wp2
      go_ret
      exact ⟨rfl, Below.refl _ _⟩
    · have h0 : 1 ≤ k := by omega
      go_enter Try.func13, Try.ntmps13
      go_wp2
      go_ret
      exact ⟨rfl, Below.refl _ _⟩
  · rcases cases11 (k := k) (by omega) (by omega) with rfl | rfl | rfl | rfl | rfl | rfl | rfl | rfl | rfl | rfl | rfl
    all_goals
      first | rw [word_1] | rw [word_2] | rw [word_3] | rw [word_4] | rw [word_5] | rw [word_6] | rw [word_7] | rw [word_8] | rw [word_9] | rw [word_10] | rw [word_11]
      clear h
      go_enter Try.func13, Try.ntmps13
      go_wp2
      go_ret
      exact ⟨rfl, (Below.refl _ _).alloc (Nat.le_refl _) _⟩

attribute [local irreducible] wordT

set_option maxHeartbeats 1000000 in
theorem opKind_any (s : ByteArray) (w : World) :
    Calls Try.prog 14 #[.string s] w fun e w' => e = .returned (.int .i64 (kindW s)) ∧ w' = w := by
  go_enter Try.func14, Try.ntmps14
  go_wp2
  refine wp_scope_jumps 0 (fun a' w' => w' = w ∧ ∃ (c : Int) (u1 u2 u4 u5 u6 u7 u8 u9 u10 u11 u12 : Value), a' = { tmps := #[.string s, u1, u2, .int .i64 c, u4, u5, u6, u7, u8, u9, u10, u11, u12], defers := [] } ∧ 1 ≤ c ∧ c ≤ 12 ∧ ∀ j, 1 ≤ j → j < c → hit s j = false) (fun a' _ => (12 - intOf (a'.tmps.getD 3 undef)).toNat) rfl ?_ ?_
  · cases hh : hit s 1 with
    | false =>
      have hb : ((wordT 1).toList == s.toList) = false := hh
      replace hh := Lib.hid (show ∀ j, 1 ≤ j → j < (2 : Int) → hit s j = false from fun j a b => by rw [show j = 1 by omega]; exact hh)
      go_wp2
      go_step3
      go_wp2_with fail
      refine (opWord_any _ _).mono ?_; rintro e w' ⟨rfl, hw⟩; obtain rfl := hw.symm
      clear hw
      go_wp2_with fail
      go_step3
      exact ⟨rfl, rfl, 2, _, _, _, _, _, _, _, _, _, _, _, rfl, by omega, by omega, hh.out⟩
    | true =>
      have hb : ((wordT 1).toList == s.toList) = true := hh
      have hk := Lib.hid (kindW_hit (by omega) (by omega) hh (fun j a b => by omega))
      clear hh
      go_wp2
      go_step3
      go_wp2_with fail
      refine (opWord_any _ _).mono ?_; rintro e w' ⟨rfl, hw⟩; obtain rfl := hw.symm
      clear hw
      go_wp2_with fail
      simp only [Exit.jump]
      go_ret
      rw [hk.out]
      exact ⟨rfl, rfl⟩
  · rintro a' w' ⟨rfl, c, u1, u2, u4, u5, u6, u7, u8, u9, u10, u11, u12, rfl, h0, h1, hl⟩
    replace hl := Lib.hid hl
    by_cases h12 : c = 12
    · have hk := Lib.hid (kindW_none fun j a b => hl.out j a (by omega))
      have h11 : 11 < c := by omega
      replace h12 := Lib.hid h12
      go_wp2_with fail
      simp only [Exit.jump]
      go_ret
      rw [hk.out]
      exact ⟨rfl, rfl⟩
    · have h11 : c ≤ 11 := by omega
      clear h12
      cases hh : hit s c with
      | false =>
        have hb : ((wordT c).toList == s.toList) = false := hh
        replace hh := Lib.hid (show ∀ j, 1 ≤ j → j < c + 1 → hit s j = false from fun j a b => by
          by_cases e : j = c
          · rw [e]; exact hh
          · exact hl.out j a (by omega))
        go_wp2_with fail
        refine (opWord_any _ _).mono ?_; rintro e w' ⟨rfl, hw⟩; obtain rfl := hw.symm
        clear hw
        go_wp2_with fail
        go_step3
        refine ⟨rfl, ⟨rfl, c + 1, _, _, _, _, _, _, _, _, _, _, _, rfl, by omega, by omega, hh.out⟩, ?_⟩
        simp [intOf]
        omega
      | true =>
        have hb : ((wordT c).toList == s.toList) = true := hh
        have hk := Lib.hid (kindW_hit h0 h11 hh hl.out)
        clear hh
        go_wp2_with fail
        refine (opWord_any _ _).mono ?_; rintro e w' ⟨rfl, hw⟩; obtain rfl := hw.symm
        clear hw
        go_wp2_with fail
        simp only [Exit.jump]
        go_ret
        rw [hk.out]
        exact ⟨rfl, rfl⟩

theorem refWords_any (w : World) :
    Calls Try.prog 19 #[] w fun e w' => e = .returned (.slice (some ⟨w.heap.size, 0, none⟩) 12 12) ∧ (∀ i : Nat, i < 12 → w'.cell? ⟨w.heap.size, i, none⟩ = some (.string (wordT i))) ∧ Below w.heap.size w w' := by
  go_enter Try.func19, Try.ntmps19
  go_wp2
  go_ret
  refine ⟨rfl, fun i hi => ?_, (Below.refl _ _).alloc (Nat.le_refl _) _⟩
  refine new_cell ?_
  rcases (by omega : i = 0 ∨ i = 1 ∨ i = 2 ∨ i = 3 ∨ i = 4 ∨ i = 5 ∨ i = 6 ∨ i = 7 ∨ i = 8 ∨ i = 9 ∨ i = 10 ∨ i = 11) with rfl | rfl | rfl | rfl | rfl | rfl | rfl | rfl | rfl | rfl | rfl | rfl
  · rw [word_out (by omega)]; rfl
  · exact congrArg (fun x => some (Value.string x)) word_1.symm
  · exact congrArg (fun x => some (Value.string x)) word_2.symm
  · exact congrArg (fun x => some (Value.string x)) word_3.symm
  · exact congrArg (fun x => some (Value.string x)) word_4.symm
  · exact congrArg (fun x => some (Value.string x)) word_5.symm
  · exact congrArg (fun x => some (Value.string x)) word_6.symm
  · exact congrArg (fun x => some (Value.string x)) word_7.symm
  · exact congrArg (fun x => some (Value.string x)) word_8.symm
  · exact congrArg (fun x => some (Value.string x)) word_9.symm
  · exact congrArg (fun x => some (Value.string x)) word_10.symm
  · exact congrArg (fun x => some (Value.string x)) word_11.symm

theorem refKind_word (s : ByteArray) (w : World) :
    Calls Try.prog 15 #[.string s] w fun e w' => e = .returned (.int .i64 (kindW s)) ∧ Below w.heap.size w w' := by
  go_enter Try.func15, Try.ntmps15
  go_wp2
  go_loopw [3] (fun v wr => ∃ k : Nat, 1 ≤ k ∧ k ≤ 12 ∧ v = .int .i64 k ∧ (∀ j : Int, 1 ≤ j → j < k → hit s j = false) ∧ Below w.heap.size w wr) (fun v _ => 12 - (intOf v).toNat)
  case atStart => exact ⟨1, by omega, by omega, rfl, fun j a b => by omega, Below.refl _ _⟩
  case round =>
    obtain ⟨k, h0, h1, rfl, hl, hb⟩ := hrel
    replace hl := Lib.hid hl
    by_cases h12 : k = 12
    · have hk := Lib.hid (kindW_none fun j a b => hl.out j a (by omega))
      have h11 : 11 < k := by omega
      clear h12
      go_wp2_with fail
      go_ret
      rw [hk.out]
      exact ⟨rfl, hb⟩
    · have h11 : k ≤ 11 := by omega
      clear h12
      cases hh : hit s k with
      | false =>
        have hc : ((wordT k).toList == s.toList) = false := hh
        replace hh := Lib.hid (show ∀ j : Int, 1 ≤ j → j < ((k + 1 : Nat) : Int) → hit s j = false from fun j a b => by
          by_cases e : j = k
          · rw [e]; exact hh
          · exact hl.out j a (by omega))
        go_wp2_with fail
        refine (refWords_any _).mono ?_; rintro e w1 ⟨rfl, hcell, hb1⟩
        have hck := hcell k (by omega)
        clear hcell
        go_wp2_with fail
        go_roundw
        case rel => exact ⟨k + 1, by omega, by omega, by go_num, hh.out, below_s hb hb1⟩
        case measure => simp [intOf]; omega
      | true =>
        have hc : ((wordT k).toList == s.toList) = true := hh
        have hk := Lib.hid (kindW_hit (by omega) (by omega) hh hl.out)
        clear hh
        go_wp2_with fail
        refine (refWords_any _).mono ?_; rintro e w1 ⟨rfl, hcell, hb1⟩
        have hck := hcell k (by omega)
        clear hcell
        go_wp2_with fail
        go_ret
        rw [hk.out]
        exact ⟨rfl, below_s hb hb1⟩

end Go.Proofs.Ytcoaopcompngfaa
