/- The contracts of the reference's places (package garthref14) over this seat's translation. -/
import Derived.Test.YtbefbkjhfkdihaaPlace
import Derived.Test.YtbefbkjhfkdihaaRef03p
namespace Go.Proofs.Ytbefbkjhfkdihaa
open Go.RowKit

attribute [local irreducible] smallT unitT kindT perT pagesT alignT chargeT

theorem refSlots_any (c : Int) (w : World) :
    Calls Try.prog 13 #[.int .i64 c] w fun e w' => e = .returned (.int .i64 (slotsT c)) ∧ w' = w := by
  by_cases hc : c < 0 ∨ 23 < c
  · rw [slots_out hc]
    rcases hc with hc | hc
    · go_enter Try.func13, Try.ntmps13
      go_wp2
      go_ret
      exact ⟨rfl, rfl⟩
    · have h0 : 0 ≤ c := by omega
      go_enter Try.func13, Try.ntmps13
      go_wp2
      go_ret
      exact ⟨rfl, rfl⟩
  · have h0 : 0 ≤ c := by omega
    have h1 : c ≤ 23 := by omega
    rw [slots_in h0 h1]
    obtain ⟨_, _, p0, p1, _⟩ := kind_facts h0 h1
    clear hc
    go_enter Try.func13, Try.ntmps13
    go_wp2_with (go_at_call 26; refine (refPages_any _ _).mono ?_; rintro e w' ⟨rfl, hw⟩; obtain rfl := hw.symm)
    go_ret
    exact ⟨rfl, rfl⟩

theorem room_cases (c : Int) : (perT c < 1 ∧ roomT c = 1) ∨ (¬ perT c < 1 ∧ roomT c = perT c) := by
  by_cases q : perT c < 1
  · exact .inl ⟨q, room_one q⟩
  · exact .inr ⟨q, room_per (by omega)⟩

theorem refThere_any (c s k : Int) (w : World) :
    Calls Try.prog 9 #[.int .i64 c, .int .i64 s, .int .i64 k] w fun e w' => e = .returned (.bool (thereT c s k)) ∧ Below w.heap.size w w' := by
  unfold thereT
  by_cases h0 : s < 0
  · rw [decide_eq_false (by omega : ¬ 0 ≤ s)]
    go_enter Try.func9, Try.ntmps9
    go_wp2
    go_ret
    exact ⟨rfl, Below.refl _ _⟩
  have h0' : 0 ≤ s := by omega
  clear h0
  rw [decide_eq_true h0', Bool.true_and]
  by_cases h1 : s < slotsT c
  · rw [decide_eq_true h1, Bool.true_and]
    by_cases h2 : k < 0
    · rw [decide_eq_false (by omega : ¬ 0 ≤ k), Bool.false_and]
      go_enter Try.func9, Try.ntmps9
      go_wp2_with (go_at_call 13; refine (refSlots_any _ _).mono ?_; rintro e w' ⟨rfl, hw⟩; obtain rfl := hw.symm)
      go_ret
      exact ⟨rfl, Below.refl _ _⟩
    · have h2' : 0 ≤ k := by omega
      rw [decide_eq_true h2', Bool.true_and]
      clear h2
      rcases room_cases c with ⟨q, hr⟩ | ⟨q, hr⟩
      all_goals
        rw [hr]
        clear hr
        go_enter Try.func9, Try.ntmps9
        go_wp2_with (go_at_call 13; refine (refSlots_any _ _).mono ?_; rintro e w' ⟨rfl, hw⟩; obtain rfl := hw.symm)
        refine (refPer_any _ _).mono ?_; rintro e w1 ⟨rfl, hb⟩
        go_wp2_with fail
        go_ret
        exact ⟨rfl, hb⟩
  · rw [decide_eq_false h1, Bool.false_and, Bool.false_and]
    go_enter Try.func9, Try.ntmps9
    go_wp2_with (go_at_call 13; refine (refSlots_any _ _).mono ?_; rintro e w' ⟨rfl, hw⟩; obtain rfl := hw.symm)
    go_ret
    exact ⟨rfl, Below.refl _ _⟩

theorem pos_form (c s k : Int) : (c + 1) * 131072 + s * 512 * pagesT c + k * unitT c = posT c s k := by
  unfold posT
  rw [Int.mul_assoc s, Int.mul_comm 512 (pagesT c), Int.mul_comm (c + 1)]

theorem refOf_in (c s k : Int) (w : World) (h : thereT c s k = true) :
    Calls Try.prog 11 #[.int .i64 c, .int .i64 s, .int .i64 k] w fun e w' => e = .returned (.int .i64 (posT c s k)) ∧ Below w.heap.size w w' := by
  obtain ⟨c0, c1⟩ := there_kind h
  obtain ⟨s0, s1, k0, k1⟩ := there_iff.1 h
  obtain ⟨b0, b1, b2, b3⟩ := pos_bounds h
  obtain ⟨u0, u1, p0, p1, n0, n1, _, r0, r1, _⟩ := kind_facts c0 c1
  rw [← pos_form]
  rw [show s * (pagesT c * 512) = s * 512 * pagesT c by rw [Int.mul_assoc s, Int.mul_comm 512]] at b2 b3
  clear h
  go_enter Try.func11, Try.ntmps11
  go_wp2_with (go_at_call 26; refine (refPages_any _ _).mono ?_; rintro e w' ⟨rfl, hw⟩; obtain rfl := hw.symm)
  refine (refUnit_any _ _).mono ?_; rintro e w1 ⟨rfl, hb⟩
  go_wp2_with fail
  go_ret
  exact ⟨rfl, hb⟩

/-! ### Find -/
def ansR (a : Int) : Value := if foundB a = true then .tuple #[.int .i64 (kdT a), .int .i64 (slT a), .int .i64 (nrT a), .bool true] else .tuple #[.int .i64 0, .int .i64 0, .int .i64 0, .bool false]
theorem ansR_hit {a s k : Int} (h : thereT (kdT a) s k = true) (g : posT (kdT a) s k = a) : ansR a = .tuple #[.int .i64 (kdT a), .int .i64 s, .int .i64 k, .bool true] := by
  have h1 := found_pos h
  obtain ⟨_, _, _, h2, h3⟩ := find_pos h
  rw [g] at h1 h2 h3
  unfold ansR
  rw [if_pos h1, h2, h3]
theorem ansR_miss {a : Int} (h : ∀ s k, thereT (kdT a) s k = true → posT (kdT a) s k ≠ a) : ansR a = .tuple #[.int .i64 0, .int .i64 0, .int .i64 0, .bool false] := by
  unfold ansR
  rw [if_neg]
  intro hf
  obtain ⟨_, _, ht, hp⟩ := found_iff.1 hf
  exact h _ _ ht hp
theorem ansR_out {a : Int} (h : a < 131072 ∨ 3276800 ≤ a) : ansR a = .tuple #[.int .i64 0, .int .i64 0, .int .i64 0, .bool false] := by
  unfold ansR
  rw [if_neg]
  intro hf
  obtain ⟨h0, h1, _⟩ := found_iff.1 hf
  omega

set_option maxHeartbeats 1000000 in
theorem refFind_any (a : Int) (w : World) (hmax : a ≤ 9223372036854775807) :
    Calls Try.prog 15 #[.int .i64 a] w fun e w' => e = .returned (ansR a) ∧ Below w.heap.size w w' := by
  by_cases h0 : a < 131072
  · rw [ansR_out (.inl h0)]
    by_cases h00 : a < 0
    · go_enter Try.func15, Try.ntmps15
      go_wp2
      exact bodyPost_ret (v := .tuple #[.int .i64 0, .int .i64 0, .int .i64 0, .bool false]) (by simp [results, Try.results15, go_sem]) rfl ⟨rfl, Below.refl _ _⟩
    · have h00' : 0 ≤ a := by omega
      clear h00
      go_enter Try.func15, Try.ntmps15
      go_wp2
      exact bodyPost_ret (v := .tuple #[.int .i64 0, .int .i64 0, .int .i64 0, .bool false]) (by simp [results, Try.results15, go_sem]) rfl ⟨rfl, Below.refl _ _⟩
  by_cases h1 : 3276800 ≤ a
  · rw [ansR_out (.inr h1)]
    go_enter Try.func15, Try.ntmps15
    go_wp2
    exact bodyPost_ret (v := .tuple #[.int .i64 0, .int .i64 0, .int .i64 0, .bool false]) (by simp [results, Try.results15, go_sem]) rfl ⟨rfl, Below.refl _ _⟩
  have a0 : 131072 ≤ a := by omega
  have a1 : a < 3276800 := by omega
  clear h0 h1
  obtain ⟨c0, c1⟩ := kd_bound a0 a1
  obtain ⟨_, _, _, _, n0, n1, _, r0, r1, _⟩ := kind_facts c0 c1
  have e0 : a / 131072 - 1 = kdT a := rfl
  have hr := Lib.hid (room_cases (kdT a))
  go_enter Try.func15, Try.ntmps15
  go_wp2
  go_loopw [7] (fun s wr => ∃ m : Nat, (m : Int) ≤ slotsT (kdT a) ∧ s = .int .i64 m ∧ (∀ s k : Int, s < (m : Int) → thereT (kdT a) s k = true → posT (kdT a) s k ≠ a) ∧ Below w.heap.size w wr) (fun s _ => 256 - (intOf s).toNat)
  case atStart => exact ⟨0, by omega, rfl, fun s k hs ht => by have := (there_iff.1 ht).1; omega, Below.refl _ _⟩
  case round =>
    obtain ⟨m, hm, rfl, hno, hb⟩ := hrel
    replace hno := Lib.hid hno
    by_cases hlt : (m : Int) < slotsT (kdT a)
    · have ht : thereT (kdT a) m 0 = true := there_iff.2 ⟨by omega, hlt, by omega, by omega⟩
      go_wp2_with (go_at_call 13; refine (refSlots_any _ _).mono ?_; rintro e w' ⟨rfl, hw⟩; obtain rfl := hw.symm)
      refine (refOf_in _ _ _ _ ht).mono ?_; rintro e w1 ⟨rfl, hb1⟩
      replace hb1 := below_seq hb hb.size hb1
      by_cases hgt : a < posT (kdT a) m 0
      · have d1 : decide (a < posT (kdT a) m 0) = true := decide_eq_true hgt
        have hfin : ∀ s k, thereT (kdT a) s k = true → posT (kdT a) s k ≠ a := by
          intro s k hs he
          by_cases hsm : s < m
          · exact hno.out s k hsm hs he
          · obtain ⟨_, _, k0, _⟩ := there_iff.1 hs
            obtain ⟨g0, _⟩ := kind_facts c0 c1
            rcases (by omega : (m : Int) < s ∨ ((m : Int) = s ∧ 0 < k) ∨ (s = m ∧ k = 0)) with h | h | ⟨rfl, rfl⟩
            · have := pos_lt ht hs (.inl h); omega
            · have := pos_lt ht hs (.inr h); omega
            · omega
        have hR := Lib.hid (ansR_miss hfin)
        clear hfin hgt
        go_wp2_with fail
        exact bodyPost_ret (v := .tuple #[.int .i64 0, .int .i64 0, .int .i64 0, .bool false]) (by simp [results, Try.results15, go_sem]) rfl ⟨by rw [hR.out], hb1⟩
      · have d1 : decide (a < posT (kdT a) m 0) = false := decide_eq_false hgt
        clear hgt hb
        go_wp2_with fail
        go_loopw [8] (fun s wr => ∃ j : Nat, (j : Int) ≤ roomT (kdT a) ∧ s = .int .i64 j ∧ (∀ k : Int, k < (j : Int) → thereT (kdT a) m k = true → posT (kdT a) m k ≠ a) ∧ Below w.heap.size w wr) (fun s _ => 32 - (intOf s).toNat)
        case atStart => exact ⟨0, by omega, rfl, fun k hk ht => by have := (there_iff.1 ht).2.2.1; omega, hb1⟩
        case round =>
          clear hb1
          obtain ⟨j, hj, rfl, hnk, hb⟩ := hrel
          replace hnk := Lib.hid hnk
          by_cases hl : (j : Int) < roomT (kdT a)
          · have htj : thereT (kdT a) m j = true := there_iff.2 ⟨by omega, hlt, by omega, hl⟩
            have hnext : ∀ k, k < (j : Int) + 1 → thereT (kdT a) m k = true → k ≠ j → posT (kdT a) m k ≠ a := fun k hk hq hne => hnk.out k (by omega) hq
            by_cases he : posT (kdT a) m j = a
            · have hR := Lib.hid (ansR_hit htj he)
              have d2 : (posT (kdT a) m j == a) = true := beq_iff_eq.2 he
              clear he hnext
              rcases hr.out with ⟨q, hq⟩ | ⟨q, hq⟩
              all_goals
                rw [hq] at hl
                clear hq hj r1 r0
                go_wp2_with fail
                refine (refPer_any _ _).mono ?_; rintro e w2 ⟨rfl, hb2⟩
                replace hb2 := below_seq hb hb.size hb2
                go_wp2_with fail
                refine (refOf_in _ _ _ _ htj).mono ?_; rintro e w3 ⟨rfl, hb3⟩
                replace hb3 := below_seq hb2 hb2.size hb3
                go_wp2_with fail
                exact bodyPost_ret (v := .tuple #[.int .i64 (kdT a), .int .i64 m, .int .i64 j, .bool true]) (by simp [results, Try.results15, go_sem]) rfl ⟨by rw [hR.out], hb3⟩
            · have d2 : (posT (kdT a) m j == a) = false := beq_eq_false_iff_ne.2 he
              have hnew := Lib.hid (show ∀ k, k < ((j + 1 : Nat) : Int) → thereT (kdT a) m k = true → posT (kdT a) m k ≠ a from fun k hk hq => by
                by_cases hkj : k = (j : Int)
                · rw [hkj]; exact he
                · exact hnext k (by omega) hq hkj)
              have hj1 := Lib.hid (show ((j + 1 : Nat) : Int) ≤ roomT (kdT a) by omega)
              clear he hnext
              rcases hr.out with ⟨q, hq⟩ | ⟨q, hq⟩
              all_goals
                rw [hq] at hl
                have r2 : (j : Int) < 32 := by omega
                clear hq hj r1 r0
                go_wp2_with fail
                refine (refPer_any _ _).mono ?_; rintro e w2 ⟨rfl, hb2⟩
                replace hb2 := below_seq hb hb.size hb2
                go_wp2_with fail
                refine (refOf_in _ _ _ _ htj).mono ?_; rintro e w3 ⟨rfl, hb3⟩
                replace hb3 := below_seq hb2 hb2.size hb3
                go_wp2_with fail
                go_roundw
                case rel => exact ⟨j + 1, hj1.out, by go_num, hnew.out, hb3⟩
                case measure => simp [intOf]; omega
          · have hje : (j : Int) = roomT (kdT a) := by omega
            have hnew := Lib.hid (show ∀ s k : Int, s < ((m + 1 : Nat) : Int) → thereT (kdT a) s k = true → posT (kdT a) s k ≠ a from fun s k hs hq => by
              by_cases hsm : s = (m : Int)
              · rw [hsm] at hq ⊢
                exact hnk.out k (by have := (there_iff.1 hq).2.2.2; omega) hq
              · exact hno.out s k (by omega) hq)
            have hm1 := Lib.hid (show ((m + 1 : Nat) : Int) ≤ slotsT (kdT a) by omega)
            clear hje
            rcases hr.out with ⟨q, hq⟩ | ⟨q, hq⟩
            all_goals
              rw [hq] at hl
              clear hq hj r1 r0
              go_wp2_with fail
              refine (refPer_any _ _).mono ?_; rintro e w2 ⟨rfl, hb2⟩
              replace hb2 := below_seq hb hb.size hb2
              go_wp2_with fail
              go_roundw
              case rel => exact ⟨m + 1, hm1.out, by go_num, hnew.out, hb2⟩
              case measure => simp [intOf]; omega
    · have hR := Lib.hid (ansR_miss (a := a) fun s k hs => hno.out s k (by have := (there_iff.1 hs).2.1; omega) hs)
      have d3 : decide ((m : Int) < slotsT (kdT a)) = false := decide_eq_false hlt
      clear hlt hm
      go_wp2_with (go_at_call 13; refine (refSlots_any _ _).mono ?_; rintro e w' ⟨rfl, hw⟩; obtain rfl := hw.symm)
      exact bodyPost_ret (v := .tuple #[.int .i64 0, .int .i64 0, .int .i64 0, .bool false]) (by simp [results, Try.results15, go_sem]) rfl ⟨by rw [hR.out], hb⟩

theorem refWithin_any (a n : Int) (w : World) :
    Calls Try.prog 20 #[.int .i64 a, .int .i64 n] w fun e w' => e = .returned (.bool (insideB a n)) ∧ w' = w := by
  by_cases h0 : n < 0
  · rw [inside_no (.inl h0)]
    go_enter Try.func20, Try.ntmps20
    go_wp2
    go_ret
    exact ⟨rfl, rfl⟩
  by_cases h1 : a < 131072
  · rw [inside_no (.inr (.inl h1))]
    have h0' : 0 ≤ n := by omega
    go_enter Try.func20, Try.ntmps20
    go_wp2
    go_ret
    exact ⟨rfl, rfl⟩
  have h0' : 0 ≤ n := by omega
  have h1' : 131072 ≤ a := by omega
  by_cases h2 : 3276800 < a
  · rw [inside_no (.inr (.inr h2))]
    go_enter Try.func20, Try.ntmps20
    go_wp2
    go_ret
    exact ⟨rfl, rfl⟩
  have h2' : a ≤ 3276800 := by omega
  rw [inside_in h0' h1' h2']
  clear h0 h1 h2
  go_enter Try.func20, Try.ntmps20
  go_wp2
  go_ret
  exact ⟨rfl, rfl⟩

end Go.Proofs.Ytbefbkjhfkdihaa
