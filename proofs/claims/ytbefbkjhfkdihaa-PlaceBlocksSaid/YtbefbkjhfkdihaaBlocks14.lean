/- The walk of PlaceBlocks. -/
import Derived.Test.YtbefbkjhfkdihaaAwk14
import Derived.OpenShut
namespace Go.Proofs.Ytbefbkjhfkdihaa
open Go.RowKit Flt

attribute [local irreducible] smallT unitT kindT perT pagesT alignT chargeT

theorem below_s {a W W1 : World} (h : Below a.heap.size a W) (hb : Below W.heap.size W W1) : Below a.heap.size a W1 := h.trans (hb.mono h.size)
theorem ansR_yes {a : Int} (h : foundB a = true) : ansR a = .tuple #[.int .i64 (kdT a), .int .i64 (slT a), .int .i64 (nrT a), .bool true] := by unfold ansR; rw [if_pos h]
theorem ansR_no {a : Int} (h : foundB a = false) : ansR a = .tuple #[.int .i64 0, .int .i64 0, .int .i64 0, .bool false] := by unfold ansR; rw [if_neg (by rw [h]; decide)]

theorem refFind_yes (a : Int) (w : World) (hmax : a ≤ 9223372036854775807) (h : foundB a = true) :
    Calls Try.prog 15 #[.int .i64 a] w fun e w' => e = .returned (.tuple #[.int .i64 (kdT a), .int .i64 (slT a), .int .i64 (nrT a), .bool true]) ∧ Below w.heap.size w w' := by
  have := refFind_any a w hmax
  rwa [ansR_yes h] at this
theorem refFind_no (a : Int) (w : World) (hmax : a ≤ 9223372036854775807) (h : foundB a = false) :
    Calls Try.prog 15 #[.int .i64 a] w fun e w' => e = .returned (.tuple #[.int .i64 0, .int .i64 0, .int .i64 0, .bool false]) ∧ Below w.heap.size w w' := by
  have := refFind_any a w hmax
  rwa [ansR_no h] at this

theorem placeBlocks_walk (c s k a : Int) (w : World) (_ : (Lit.int .i64 c).wf = true) (_ : (Lit.int .i64 s).wf = true) (_ : (Lit.int .i64 k).wf = true) (w3 : (Lit.int .i64 a).wf = true) :
    Calls Try.prog 3 #[.int .i64 c, .int .i64 s, .int .i64 k, .int .i64 a] w fun e w' => e = .returned (.bool true) ∧ Below w.heap.size w w' := by
  have hm := Lib.hid (bounds_i64 w3).2
  clear w3
  cases ht : thereT c s k with
  | true =>
    cases hf : foundB a with
    | true =>
      replace ht := Lib.hid ht
      replace hf := Lib.hid hf
      go_enter Try.func3, Try.ntmps3
      go_wp2_with fail
      refine (placeOf_yes _ _ _ _ ht.out).mono ?_; rintro e w' ⟨rfl, hw⟩; obtain rfl := hw.symm
      clear hw
      go_wp2_with fail
      have h3 := refThere_any c s k w
      rw [ht.out] at h3
      refine h3.mono ?_; clear h3; rintro e w1 ⟨rfl, hb1⟩
      go_wp2_with fail
      refine (awake_any _).mono ?_; rintro e w2 ⟨rfl, n2, hw2⟩
      go_wp2_with fail
      refine (refOf_in _ _ _ _ ht.out).mono ?_; rintro e w3 ⟨rfl, hb3⟩
      go_wp2_with fail
      refine (slots_any _ _).mono ?_; rintro e w' ⟨rfl, hw⟩; obtain rfl := hw.symm
      clear hw
      go_wp2_with fail
      refine (refSlots_any _ _).mono ?_; rintro e w' ⟨rfl, hw⟩; obtain rfl := hw.symm
      clear hw
      go_wp2_with fail
      refine (find_yes _ _ hf.out).mono ?_; rintro e w4 ⟨rfl, n4, hw4⟩
      go_wp2_with fail
      refine (refFind_yes _ _ hm.out hf.out).mono ?_; rintro e w5 ⟨rfl, hb5⟩
      go_wp2_with fail
      go_ret
      exact ⟨rfl, below_s (belowN (below_s (belowN hb1 _) hb3) _) hb5⟩
    | false =>
      replace ht := Lib.hid ht
      replace hf := Lib.hid hf
      go_enter Try.func3, Try.ntmps3
      go_wp2_with fail
      refine (placeOf_yes _ _ _ _ ht.out).mono ?_; rintro e w' ⟨rfl, hw⟩; obtain rfl := hw.symm
      clear hw
      go_wp2_with fail
      have h3 := refThere_any c s k w
      rw [ht.out] at h3
      refine h3.mono ?_; clear h3; rintro e w1 ⟨rfl, hb1⟩
      go_wp2_with fail
      refine (awake_any _).mono ?_; rintro e w2 ⟨rfl, n2, hw2⟩
      go_wp2_with fail
      refine (refOf_in _ _ _ _ ht.out).mono ?_; rintro e w3 ⟨rfl, hb3⟩
      go_wp2_with fail
      refine (slots_any _ _).mono ?_; rintro e w' ⟨rfl, hw⟩; obtain rfl := hw.symm
      clear hw
      go_wp2_with fail
      refine (refSlots_any _ _).mono ?_; rintro e w' ⟨rfl, hw⟩; obtain rfl := hw.symm
      clear hw
      go_wp2_with fail
      refine (find_no _ _ hf.out).mono ?_; rintro e w4 ⟨rfl, n4, hw4⟩
      go_wp2_with fail
      refine (refFind_no _ _ hm.out hf.out).mono ?_; rintro e w5 ⟨rfl, hb5⟩
      go_wp2_with fail
      go_ret
      exact ⟨rfl, below_s (belowN (below_s (belowN hb1 _) hb3) _) hb5⟩
  | false =>
    cases hf : foundB a with
    | true =>
      replace ht := Lib.hid ht
      replace hf := Lib.hid hf
      go_enter Try.func3, Try.ntmps3
      go_wp2_with fail
      refine (placeOf_no _ _ _ _ ht.out).mono ?_; rintro e w' ⟨rfl, hw⟩; obtain rfl := hw.symm
      clear hw
      go_wp2_with fail
      have h3 := refThere_any c s k w
      rw [ht.out] at h3
      refine h3.mono ?_; clear h3; rintro e w1 ⟨rfl, hb1⟩
      go_wp2_with fail
      refine (awake_any _).mono ?_; rintro e w2 ⟨rfl, n2, hw2⟩
      go_wp2_with fail
      refine (slots_any _ _).mono ?_; rintro e w' ⟨rfl, hw⟩; obtain rfl := hw.symm
      clear hw
      go_wp2_with fail
      refine (refSlots_any _ _).mono ?_; rintro e w' ⟨rfl, hw⟩; obtain rfl := hw.symm
      clear hw
      go_wp2_with fail
      refine (find_yes _ _ hf.out).mono ?_; rintro e w4 ⟨rfl, n4, hw4⟩
      go_wp2_with fail
      refine (refFind_yes _ _ hm.out hf.out).mono ?_; rintro e w5 ⟨rfl, hb5⟩
      go_wp2_with fail
      go_ret
      exact ⟨rfl, below_s (belowN hb1 _) hb5⟩
    | false =>
      replace ht := Lib.hid ht
      replace hf := Lib.hid hf
      go_enter Try.func3, Try.ntmps3
      go_wp2_with fail
      refine (placeOf_no _ _ _ _ ht.out).mono ?_; rintro e w' ⟨rfl, hw⟩; obtain rfl := hw.symm
      clear hw
      go_wp2_with fail
      have h3 := refThere_any c s k w
      rw [ht.out] at h3
      refine h3.mono ?_; clear h3; rintro e w1 ⟨rfl, hb1⟩
      go_wp2_with fail
      refine (awake_any _).mono ?_; rintro e w2 ⟨rfl, n2, hw2⟩
      go_wp2_with fail
      refine (slots_any _ _).mono ?_; rintro e w' ⟨rfl, hw⟩; obtain rfl := hw.symm
      clear hw
      go_wp2_with fail
      refine (refSlots_any _ _).mono ?_; rintro e w' ⟨rfl, hw⟩; obtain rfl := hw.symm
      clear hw
      go_wp2_with fail
      refine (find_no _ _ hf.out).mono ?_; rintro e w4 ⟨rfl, n4, hw4⟩
      go_wp2_with fail
      refine (refFind_no _ _ hm.out hf.out).mono ?_; rintro e w5 ⟨rfl, hb5⟩
      go_wp2_with fail
      go_ret
      exact ⟨rfl, below_s (belowN hb1 _) hb5⟩

end Go.Proofs.Ytbefbkjhfkdihaa
