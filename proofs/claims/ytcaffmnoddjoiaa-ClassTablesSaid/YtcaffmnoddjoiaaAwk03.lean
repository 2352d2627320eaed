/- 'awake' of chapter 3 answers true; the walks of ClassKinds and ClassTables. -/
import Derived.Test.YtcaffmnoddjoiaaClsAlign
import Derived.Test.YtcaffmnoddjoiaaRef03o
import Derived.Test.YtcaffmnoddjoiaaRef03p
import Derived.Test.YtcaffmnoddjoiaaRef03a
namespace Go.Proofs.Ytcaffmnoddjoiaa
open Go.RowKit

theorem k17 : kindT 17 = 1 := by decide
theorem k257 : kindT 257 = 8 := by decide
theorem k8193 : kindT 8193 = -1 := by decide
theorem c40 : chargeT 40 = 48 := by decide
theorem c600 : chargeT 600 = 1024 := by decide
theorem a4 : alignT 4 = 32 := by decide
theorem p2 : perT 2 = 10 := by decide

attribute [local irreducible] smallT unitT kindT perT pagesT alignT chargeT

set_option maxHeartbeats 400000 in
theorem awake_any (w : World) : Calls Try.prog 9 #[] w fun e w' => e = .returned (.bool true) ∧ w' = w := by
  have k17 := k17
  have k257 := k257
  have k8193 := k8193
  have c40 := c40
  have c600 := c600
  have a4 := a4
  have p2 := p2
  go_enter Try.func9, Try.ntmps9
  go_wp2_with (first | (go_at_call 10; refine (kindOf_any _ _).mono ?_; rintro e w' ⟨rfl, hw⟩; obtain rfl := hw.symm) | (go_at_call 12; refine (charge_any _ _).mono ?_; rintro e w' ⟨rfl, hw⟩; obtain rfl := hw.symm) | (go_at_call 20; refine (align_any _ _).mono ?_; rintro e w' ⟨rfl, hw⟩; obtain rfl := hw.symm) | (go_at_call 16; refine (per_any _ _).mono ?_; rintro e w' ⟨rfl, hw⟩; obtain rfl := hw.symm))
  go_ret
  exact ⟨rfl, rfl⟩

set_option maxHeartbeats 400000 in
theorem classKinds_walk (n : Int) (w : World) : Calls Try.prog 3 #[.int .i64 n] w fun e w' => e = .returned (.bool true) ∧ Below w.heap.size w w' := by
  go_enter Try.func3, Try.ntmps3
  go_wp2_with fail
  refine (awake_any _).mono ?_; rintro e w' ⟨rfl, hw⟩; obtain rfl := hw.symm
  clear hw
  go_wp2_with fail
  refine (kindOf_any _ _).mono ?_; rintro e w' ⟨rfl, hw⟩; obtain rfl := hw.symm
  clear hw
  go_wp2_with fail
  refine (refKind_any _ _).mono ?_; rintro e w1 ⟨rfl, hb1⟩
  go_wp2_with fail
  refine (charge_any _ _).mono ?_; rintro e w' ⟨rfl, hw⟩; obtain rfl := hw.symm
  clear hw
  go_wp2_with fail
  refine (refCharge_any _ _).mono ?_; rintro e w2 ⟨rfl, hb2⟩
  go_wp2_with fail
  go_ret
  exact ⟨rfl, below_seq hb1 hb1.size hb2⟩

set_option maxHeartbeats 400000 in
theorem classTables_walk (c : Int) (w : World) : Calls Try.prog 4 #[.int .i64 c] w fun e w' => e = .returned (.bool true) ∧ Below w.heap.size w w' := by
  go_enter Try.func4, Try.ntmps4
  go_wp2_with fail
  refine (awake_any _).mono ?_; rintro e w' ⟨rfl, hw⟩; obtain rfl := hw.symm
  clear hw
  go_wp2_with fail
  refine (unit_any _ _).mono ?_; rintro e w' ⟨rfl, hw⟩; obtain rfl := hw.symm
  clear hw
  go_wp2_with fail
  refine (refUnit_any _ _).mono ?_; rintro e w1 ⟨rfl, hb1⟩
  go_wp2_with fail
  refine (per_any _ _).mono ?_; rintro e w' ⟨rfl, hw⟩; obtain rfl := hw.symm
  clear hw
  go_wp2_with fail
  refine (refPer_any _ _).mono ?_; rintro e w2 ⟨rfl, hb2⟩
  go_wp2_with fail
  refine (pages_any _ _).mono ?_; rintro e w' ⟨rfl, hw⟩; obtain rfl := hw.symm
  clear hw
  go_wp2_with fail
  refine (refPages_any _ _).mono ?_; rintro e w' ⟨rfl, hw⟩; obtain rfl := hw.symm
  clear hw
  go_wp2_with fail
  refine (align_any _ _).mono ?_; rintro e w' ⟨rfl, hw⟩; obtain rfl := hw.symm
  clear hw
  go_wp2_with fail
  refine (refAlign_any _ _).mono ?_; rintro e w3 ⟨rfl, hb3⟩
  go_wp2_with fail
  go_ret
  exact ⟨rfl, below_seq (below_seq hb1 hb1.size hb2) (Nat.le_trans hb1.size hb2.size) hb3⟩

end Go.Proofs.Ytcaffmnoddjoiaa
