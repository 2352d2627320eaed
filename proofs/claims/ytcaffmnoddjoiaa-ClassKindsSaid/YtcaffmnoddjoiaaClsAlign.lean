/- The contracts of class.Align and Charge over this seat's translation. -/
import Derived.Test.YtcaffmnoddjoiaaClsTab
import Derived.Test.YtcaffmnoddjoiaaClsOf
namespace Go.Proofs.Ytcaffmnoddjoiaa
open Go.RowKit

theorem align_0 (w : World) : Calls Try.prog 20 #[.int .i64 0] w fun e w' => e = .returned (.int .i64 16) ∧ w' = w := by
  have hu : ∀ w, Calls Try.prog 14 #[.int .i64 0] w fun e w' => e = .returned (.int .i64 16) ∧ w' = w := fun w => unit_any 0 w
  have hb : bits BinOp.and IntKind.i64 16 (-16) = 16 := by decide
  go_enter Try.func20, Try.ntmps20
  go_wp2_with (first | (go_at_call 23; refine (within_yes _ _ (by omega) (by omega)).mono ?_; rintro e w' ⟨rfl, hw⟩; obtain rfl := hw.symm) | (go_at_call 14; refine (hu _).mono ?_; rintro e w' ⟨rfl, hw⟩; obtain rfl := hw.symm))
  go_ret
  exact ⟨rfl, rfl⟩

theorem align_1 (w : World) : Calls Try.prog 20 #[.int .i64 1] w fun e w' => e = .returned (.int .i64 32) ∧ w' = w := by
  have hu : ∀ w, Calls Try.prog 14 #[.int .i64 1] w fun e w' => e = .returned (.int .i64 32) ∧ w' = w := fun w => unit_any 1 w
  have hb : bits BinOp.and IntKind.i64 32 (-32) = 32 := by decide
  go_enter Try.func20, Try.ntmps20
  go_wp2_with (first | (go_at_call 23; refine (within_yes _ _ (by omega) (by omega)).mono ?_; rintro e w' ⟨rfl, hw⟩; obtain rfl := hw.symm) | (go_at_call 14; refine (hu _).mono ?_; rintro e w' ⟨rfl, hw⟩; obtain rfl := hw.symm))
  go_ret
  exact ⟨rfl, rfl⟩

theorem align_2 (w : World) : Calls Try.prog 20 #[.int .i64 2] w fun e w' => e = .returned (.int .i64 16) ∧ w' = w := by
  have hu : ∀ w, Calls Try.prog 14 #[.int .i64 2] w fun e w' => e = .returned (.int .i64 48) ∧ w' = w := fun w => unit_any 2 w
  have hb : bits BinOp.and IntKind.i64 48 (-48) = 16 := by decide
  go_enter Try.func20, Try.ntmps20
  go_wp2_with (first | (go_at_call 23; refine (within_yes _ _ (by omega) (by omega)).mono ?_; rintro e w' ⟨rfl, hw⟩; obtain rfl := hw.symm) | (go_at_call 14; refine (hu _).mono ?_; rintro e w' ⟨rfl, hw⟩; obtain rfl := hw.symm))
  go_ret
  exact ⟨rfl, rfl⟩

theorem align_3 (w : World) : Calls Try.prog 20 #[.int .i64 3] w fun e w' => e = .returned (.int .i64 64) ∧ w' = w := by
  have hu : ∀ w, Calls Try.prog 14 #[.int .i64 3] w fun e w' => e = .returned (.int .i64 64) ∧ w' = w := fun w => unit_any 3 w
  have hb : bits BinOp.and IntKind.i64 64 (-64) = 64 := by decide
  go_enter Try.func20, Try.ntmps20
  go_wp2_with (first | (go_at_call 23; refine (within_yes _ _ (by omega) (by omega)).mono ?_; rintro e w' ⟨rfl, hw⟩; obtain rfl := hw.symm) | (go_at_call 14; refine (hu _).mono ?_; rintro e w' ⟨rfl, hw⟩; obtain rfl := hw.symm))
  go_ret
  exact ⟨rfl, rfl⟩

theorem align_4 (w : World) : Calls Try.prog 20 #[.int .i64 4] w fun e w' => e = .returned (.int .i64 32) ∧ w' = w := by
  have hu : ∀ w, Calls Try.prog 14 #[.int .i64 4] w fun e w' => e = .returned (.int .i64 96) ∧ w' = w := fun w => unit_any 4 w
  have hb : bits BinOp.and IntKind.i64 96 (-96) = 32 := by decide
  go_enter Try.func20, Try.ntmps20
  go_wp2_with (first | (go_at_call 23; refine (within_yes _ _ (by omega) (by omega)).mono ?_; rintro e w' ⟨rfl, hw⟩; obtain rfl := hw.symm) | (go_at_call 14; refine (hu _).mono ?_; rintro e w' ⟨rfl, hw⟩; obtain rfl := hw.symm))
  go_ret
  exact ⟨rfl, rfl⟩

theorem align_5 (w : World) : Calls Try.prog 20 #[.int .i64 5] w fun e w' => e = .returned (.int .i64 128) ∧ w' = w := by
  have hu : ∀ w, Calls Try.prog 14 #[.int .i64 5] w fun e w' => e = .returned (.int .i64 128) ∧ w' = w := fun w => unit_any 5 w
  have hb : bits BinOp.and IntKind.i64 128 (-128) = 128 := by decide
  go_enter Try.func20, Try.ntmps20
  go_wp2_with (first | (go_at_call 23; refine (within_yes _ _ (by omega) (by omega)).mono ?_; rintro e w' ⟨rfl, hw⟩; obtain rfl := hw.symm) | (go_at_call 14; refine (hu _).mono ?_; rintro e w' ⟨rfl, hw⟩; obtain rfl := hw.symm))
  go_ret
  exact ⟨rfl, rfl⟩

theorem align_6 (w : World) : Calls Try.prog 20 #[.int .i64 6] w fun e w' => e = .returned (.int .i64 64) ∧ w' = w := by
  have hu : ∀ w, Calls Try.prog 14 #[.int .i64 6] w fun e w' => e = .returned (.int .i64 192) ∧ w' = w := fun w => unit_any 6 w
  have hb : bits BinOp.and IntKind.i64 192 (-192) = 64 := by decide
  go_enter Try.func20, Try.ntmps20
  go_wp2_with (first | (go_at_call 23; refine (within_yes _ _ (by omega) (by omega)).mono ?_; rintro e w' ⟨rfl, hw⟩; obtain rfl := hw.symm) | (go_at_call 14; refine (hu _).mono ?_; rintro e w' ⟨rfl, hw⟩; obtain rfl := hw.symm))
  go_ret
  exact ⟨rfl, rfl⟩

theorem align_7 (w : World) : Calls Try.prog 20 #[.int .i64 7] w fun e w' => e = .returned (.int .i64 256) ∧ w' = w := by
  have hu : ∀ w, Calls Try.prog 14 #[.int .i64 7] w fun e w' => e = .returned (.int .i64 256) ∧ w' = w := fun w => unit_any 7 w
  have hb : bits BinOp.and IntKind.i64 256 (-256) = 256 := by decide
  go_enter Try.func20, Try.ntmps20
  go_wp2_with (first | (go_at_call 23; refine (within_yes _ _ (by omega) (by omega)).mono ?_; rintro e w' ⟨rfl, hw⟩; obtain rfl := hw.symm) | (go_at_call 14; refine (hu _).mono ?_; rintro e w' ⟨rfl, hw⟩; obtain rfl := hw.symm))
  go_ret
  exact ⟨rfl, rfl⟩

theorem align_8 (w : World) : Calls Try.prog 20 #[.int .i64 8] w fun e w' => e = .returned (.int .i64 512) ∧ w' = w := by
  have hu : ∀ w, Calls Try.prog 14 #[.int .i64 8] w fun e w' => e = .returned (.int .i64 512) ∧ w' = w := fun w => unit_any 8 w
  have hb : bits BinOp.and IntKind.i64 512 (-512) = 512 := by decide
  go_enter Try.func20, Try.ntmps20
  go_wp2_with (first | (go_at_call 23; refine (within_yes _ _ (by omega) (by omega)).mono ?_; rintro e w' ⟨rfl, hw⟩; obtain rfl := hw.symm) | (go_at_call 14; refine (hu _).mono ?_; rintro e w' ⟨rfl, hw⟩; obtain rfl := hw.symm))
  go_ret
  exact ⟨rfl, rfl⟩

theorem align_9 (w : World) : Calls Try.prog 20 #[.int .i64 9] w fun e w' => e = .returned (.int .i64 512) ∧ w' = w := by
  have hu : ∀ w, Calls Try.prog 14 #[.int .i64 9] w fun e w' => e = .returned (.int .i64 1024) ∧ w' = w := fun w => unit_any 9 w
  have hb : bits BinOp.and IntKind.i64 1024 (-1024) = 1024 := by decide
  go_enter Try.func20, Try.ntmps20
  go_wp2_with (first | (go_at_call 23; refine (within_yes _ _ (by omega) (by omega)).mono ?_; rintro e w' ⟨rfl, hw⟩; obtain rfl := hw.symm) | (go_at_call 14; refine (hu _).mono ?_; rintro e w' ⟨rfl, hw⟩; obtain rfl := hw.symm))
  go_ret
  exact ⟨rfl, rfl⟩

theorem align_10 (w : World) : Calls Try.prog 20 #[.int .i64 10] w fun e w' => e = .returned (.int .i64 512) ∧ w' = w := by
  have hu : ∀ w, Calls Try.prog 14 #[.int .i64 10] w fun e w' => e = .returned (.int .i64 1536) ∧ w' = w := fun w => unit_any 10 w
  have hb : bits BinOp.and IntKind.i64 1536 (-1536) = 512 := by decide
  go_enter Try.func20, Try.ntmps20
  go_wp2_with (first | (go_at_call 23; refine (within_yes _ _ (by omega) (by omega)).mono ?_; rintro e w' ⟨rfl, hw⟩; obtain rfl := hw.symm) | (go_at_call 14; refine (hu _).mono ?_; rintro e w' ⟨rfl, hw⟩; obtain rfl := hw.symm))
  go_ret
  exact ⟨rfl, rfl⟩

theorem align_11 (w : World) : Calls Try.prog 20 #[.int .i64 11] w fun e w' => e = .returned (.int .i64 512) ∧ w' = w := by
  have hu : ∀ w, Calls Try.prog 14 #[.int .i64 11] w fun e w' => e = .returned (.int .i64 2048) ∧ w' = w := fun w => unit_any 11 w
  have hb : bits BinOp.and IntKind.i64 2048 (-2048) = 2048 := by decide
  go_enter Try.func20, Try.ntmps20
  go_wp2_with (first | (go_at_call 23; refine (within_yes _ _ (by omega) (by omega)).mono ?_; rintro e w' ⟨rfl, hw⟩; obtain rfl := hw.symm) | (go_at_call 14; refine (hu _).mono ?_; rintro e w' ⟨rfl, hw⟩; obtain rfl := hw.symm))
  go_ret
  exact ⟨rfl, rfl⟩

theorem align_12 (w : World) : Calls Try.prog 20 #[.int .i64 12] w fun e w' => e = .returned (.int .i64 512) ∧ w' = w := by
  have hu : ∀ w, Calls Try.prog 14 #[.int .i64 12] w fun e w' => e = .returned (.int .i64 2560) ∧ w' = w := fun w => unit_any 12 w
  have hb : bits BinOp.and IntKind.i64 2560 (-2560) = 512 := by decide
  go_enter Try.func20, Try.ntmps20
  go_wp2_with (first | (go_at_call 23; refine (within_yes _ _ (by omega) (by omega)).mono ?_; rintro e w' ⟨rfl, hw⟩; obtain rfl := hw.symm) | (go_at_call 14; refine (hu _).mono ?_; rintro e w' ⟨rfl, hw⟩; obtain rfl := hw.symm))
  go_ret
  exact ⟨rfl, rfl⟩

theorem align_13 (w : World) : Calls Try.prog 20 #[.int .i64 13] w fun e w' => e = .returned (.int .i64 512) ∧ w' = w := by
  have hu : ∀ w, Calls Try.prog 14 #[.int .i64 13] w fun e w' => e = .returned (.int .i64 3072) ∧ w' = w := fun w => unit_any 13 w
  have hb : bits BinOp.and IntKind.i64 3072 (-3072) = 1024 := by decide
  go_enter Try.func20, Try.ntmps20
  go_wp2_with (first | (go_at_call 23; refine (within_yes _ _ (by omega) (by omega)).mono ?_; rintro e w' ⟨rfl, hw⟩; obtain rfl := hw.symm) | (go_at_call 14; refine (hu _).mono ?_; rintro e w' ⟨rfl, hw⟩; obtain rfl := hw.symm))
  go_ret
  exact ⟨rfl, rfl⟩

theorem align_14 (w : World) : Calls Try.prog 20 #[.int .i64 14] w fun e w' => e = .returned (.int .i64 512) ∧ w' = w := by
  have hu : ∀ w, Calls Try.prog 14 #[.int .i64 14] w fun e w' => e = .returned (.int .i64 3584) ∧ w' = w := fun w => unit_any 14 w
  have hb : bits BinOp.and IntKind.i64 3584 (-3584) = 512 := by decide
  go_enter Try.func20, Try.ntmps20
  go_wp2_with (first | (go_at_call 23; refine (within_yes _ _ (by omega) (by omega)).mono ?_; rintro e w' ⟨rfl, hw⟩; obtain rfl := hw.symm) | (go_at_call 14; refine (hu _).mono ?_; rintro e w' ⟨rfl, hw⟩; obtain rfl := hw.symm))
  go_ret
  exact ⟨rfl, rfl⟩

theorem align_15 (w : World) : Calls Try.prog 20 #[.int .i64 15] w fun e w' => e = .returned (.int .i64 512) ∧ w' = w := by
  have hu : ∀ w, Calls Try.prog 14 #[.int .i64 15] w fun e w' => e = .returned (.int .i64 4096) ∧ w' = w := fun w => unit_any 15 w
  have hb : bits BinOp.and IntKind.i64 4096 (-4096) = 4096 := by decide
  go_enter Try.func20, Try.ntmps20
  go_wp2_with (first | (go_at_call 23; refine (within_yes _ _ (by omega) (by omega)).mono ?_; rintro e w' ⟨rfl, hw⟩; obtain rfl := hw.symm) | (go_at_call 14; refine (hu _).mono ?_; rintro e w' ⟨rfl, hw⟩; obtain rfl := hw.symm))
  go_ret
  exact ⟨rfl, rfl⟩

theorem align_16 (w : World) : Calls Try.prog 20 #[.int .i64 16] w fun e w' => e = .returned (.int .i64 512) ∧ w' = w := by
  have hu : ∀ w, Calls Try.prog 14 #[.int .i64 16] w fun e w' => e = .returned (.int .i64 4608) ∧ w' = w := fun w => unit_any 16 w
  have hb : bits BinOp.and IntKind.i64 4608 (-4608) = 512 := by decide
  go_enter Try.func20, Try.ntmps20
  go_wp2_with (first | (go_at_call 23; refine (within_yes _ _ (by omega) (by omega)).mono ?_; rintro e w' ⟨rfl, hw⟩; obtain rfl := hw.symm) | (go_at_call 14; refine (hu _).mono ?_; rintro e w' ⟨rfl, hw⟩; obtain rfl := hw.symm))
  go_ret
  exact ⟨rfl, rfl⟩

theorem align_17 (w : World) : Calls Try.prog 20 #[.int .i64 17] w fun e w' => e = .returned (.int .i64 512) ∧ w' = w := by
  have hu : ∀ w, Calls Try.prog 14 #[.int .i64 17] w fun e w' => e = .returned (.int .i64 5120) ∧ w' = w := fun w => unit_any 17 w
  have hb : bits BinOp.and IntKind.i64 5120 (-5120) = 1024 := by decide
  go_enter Try.func20, Try.ntmps20
  go_wp2_with (first | (go_at_call 23; refine (within_yes _ _ (by omega) (by omega)).mono ?_; rintro e w' ⟨rfl, hw⟩; obtain rfl := hw.symm) | (go_at_call 14; refine (hu _).mono ?_; rintro e w' ⟨rfl, hw⟩; obtain rfl := hw.symm))
  go_ret
  exact ⟨rfl, rfl⟩

theorem align_18 (w : World) : Calls Try.prog 20 #[.int .i64 18] w fun e w' => e = .returned (.int .i64 512) ∧ w' = w := by
  have hu : ∀ w, Calls Try.prog 14 #[.int .i64 18] w fun e w' => e = .returned (.int .i64 5632) ∧ w' = w := fun w => unit_any 18 w
  have hb : bits BinOp.and IntKind.i64 5632 (-5632) = 512 := by decide
  go_enter Try.func20, Try.ntmps20
  go_wp2_with (first | (go_at_call 23; refine (within_yes _ _ (by omega) (by omega)).mono ?_; rintro e w' ⟨rfl, hw⟩; obtain rfl := hw.symm) | (go_at_call 14; refine (hu _).mono ?_; rintro e w' ⟨rfl, hw⟩; obtain rfl := hw.symm))
  go_ret
  exact ⟨rfl, rfl⟩

theorem align_19 (w : World) : Calls Try.prog 20 #[.int .i64 19] w fun e w' => e = .returned (.int .i64 512) ∧ w' = w := by
  have hu : ∀ w, Calls Try.prog 14 #[.int .i64 19] w fun e w' => e = .returned (.int .i64 6144) ∧ w' = w := fun w => unit_any 19 w
  have hb : bits BinOp.and IntKind.i64 6144 (-6144) = 2048 := by decide
  go_enter Try.func20, Try.ntmps20
  go_wp2_with (first | (go_at_call 23; refine (within_yes _ _ (by omega) (by omega)).mono ?_; rintro e w' ⟨rfl, hw⟩; obtain rfl := hw.symm) | (go_at_call 14; refine (hu _).mono ?_; rintro e w' ⟨rfl, hw⟩; obtain rfl := hw.symm))
  go_ret
  exact ⟨rfl, rfl⟩

theorem align_20 (w : World) : Calls Try.prog 20 #[.int .i64 20] w fun e w' => e = .returned (.int .i64 512) ∧ w' = w := by
  have hu : ∀ w, Calls Try.prog 14 #[.int .i64 20] w fun e w' => e = .returned (.int .i64 6656) ∧ w' = w := fun w => unit_any 20 w
  have hb : bits BinOp.and IntKind.i64 6656 (-6656) = 512 := by decide
  go_enter Try.func20, Try.ntmps20
  go_wp2_with (first | (go_at_call 23; refine (within_yes _ _ (by omega) (by omega)).mono ?_; rintro e w' ⟨rfl, hw⟩; obtain rfl := hw.symm) | (go_at_call 14; refine (hu _).mono ?_; rintro e w' ⟨rfl, hw⟩; obtain rfl := hw.symm))
  go_ret
  exact ⟨rfl, rfl⟩

theorem align_21 (w : World) : Calls Try.prog 20 #[.int .i64 21] w fun e w' => e = .returned (.int .i64 512) ∧ w' = w := by
  have hu : ∀ w, Calls Try.prog 14 #[.int .i64 21] w fun e w' => e = .returned (.int .i64 7168) ∧ w' = w := fun w => unit_any 21 w
  have hb : bits BinOp.and IntKind.i64 7168 (-7168) = 1024 := by decide
  go_enter Try.func20, Try.ntmps20
  go_wp2_with (first | (go_at_call 23; refine (within_yes _ _ (by omega) (by omega)).mono ?_; rintro e w' ⟨rfl, hw⟩; obtain rfl := hw.symm) | (go_at_call 14; refine (hu _).mono ?_; rintro e w' ⟨rfl, hw⟩; obtain rfl := hw.symm))
  go_ret
  exact ⟨rfl, rfl⟩

theorem align_22 (w : World) : Calls Try.prog 20 #[.int .i64 22] w fun e w' => e = .returned (.int .i64 512) ∧ w' = w := by
  have hu : ∀ w, Calls Try.prog 14 #[.int .i64 22] w fun e w' => e = .returned (.int .i64 7680) ∧ w' = w := fun w => unit_any 22 w
  have hb : bits BinOp.and IntKind.i64 7680 (-7680) = 512 := by decide
  go_enter Try.func20, Try.ntmps20
  go_wp2_with (first | (go_at_call 23; refine (within_yes _ _ (by omega) (by omega)).mono ?_; rintro e w' ⟨rfl, hw⟩; obtain rfl := hw.symm) | (go_at_call 14; refine (hu _).mono ?_; rintro e w' ⟨rfl, hw⟩; obtain rfl := hw.symm))
  go_ret
  exact ⟨rfl, rfl⟩

theorem align_23 (w : World) : Calls Try.prog 20 #[.int .i64 23] w fun e w' => e = .returned (.int .i64 512) ∧ w' = w := by
  have hu : ∀ w, Calls Try.prog 14 #[.int .i64 23] w fun e w' => e = .returned (.int .i64 8192) ∧ w' = w := fun w => unit_any 23 w
  have hb : bits BinOp.and IntKind.i64 8192 (-8192) = 8192 := by decide
  go_enter Try.func20, Try.ntmps20
  go_wp2_with (first | (go_at_call 23; refine (within_yes _ _ (by omega) (by omega)).mono ?_; rintro e w' ⟨rfl, hw⟩; obtain rfl := hw.symm) | (go_at_call 14; refine (hu _).mono ?_; rintro e w' ⟨rfl, hw⟩; obtain rfl := hw.symm))
  go_ret
  exact ⟨rfl, rfl⟩

attribute [local irreducible] smallT unitT kindT perT pagesT alignT chargeT

theorem align_any (c : Int) (w : World) :
    Calls Try.prog 20 #[.int .i64 c] w fun e w' => e = .returned (.int .i64 (alignT c)) ∧ w' = w := by
  by_cases hc : c < 0 ∨ 23 < c
  · rw [align_out hc]
    replace hc := Lib.hid hc
    go_enter Try.func20, Try.ntmps20
    go_wp2_with (go_at_call 23; refine (within_no _ _ hc.out).mono ?_; rintro e w' ⟨rfl, hw⟩; obtain rfl := hw.symm)
    go_ret
    exact ⟨rfl, rfl⟩
  · rcases (by omega : c = 0 ∨ c = 1 ∨ c = 2 ∨ c = 3 ∨ c = 4 ∨ c = 5 ∨ c = 6 ∨ c = 7 ∨ c = 8 ∨ c = 9 ∨ c = 10 ∨ c = 11 ∨ c = 12 ∨ c = 13 ∨ c = 14 ∨ c = 15 ∨ c = 16 ∨ c = 17 ∨ c = 18 ∨ c = 19 ∨ c = 20 ∨ c = 21 ∨ c = 22 ∨ c = 23) with rfl | rfl | rfl | rfl | rfl | rfl | rfl | rfl | rfl | rfl | rfl | rfl | rfl | rfl | rfl | rfl | rfl | rfl | rfl | rfl | rfl | rfl | rfl | rfl
    · unfold alignT; exact align_0 w
    · unfold alignT; exact align_1 w
    · unfold alignT; exact align_2 w
    · unfold alignT; exact align_3 w
    · unfold alignT; exact align_4 w
    · unfold alignT; exact align_5 w
    · unfold alignT; exact align_6 w
    · unfold alignT; exact align_7 w
    · unfold alignT; exact align_8 w
    · unfold alignT; exact align_9 w
    · unfold alignT; exact align_10 w
    · unfold alignT; exact align_11 w
    · unfold alignT; exact align_12 w
    · unfold alignT; exact align_13 w
    · unfold alignT; exact align_14 w
    · unfold alignT; exact align_15 w
    · unfold alignT; exact align_16 w
    · unfold alignT; exact align_17 w
    · unfold alignT; exact align_18 w
    · unfold alignT; exact align_19 w
    · unfold alignT; exact align_20 w
    · unfold alignT; exact align_21 w
    · unfold alignT; exact align_22 w
    · unfold alignT; exact align_23 w

theorem charge_any (n : Int) (w : World) :
    Calls Try.prog 12 #[.int .i64 n] w fun e w' => e = .returned (.int .i64 (chargeT n)) ∧ w' = w := by
  rw [show chargeT n = unitT (kindT n) by unfold chargeT; rfl]
  go_enter Try.func12, Try.ntmps12
  go_wp2_with (first | (go_at_call 10; refine (kindOf_any _ _).mono ?_; rintro e w' ⟨rfl, hw⟩; obtain rfl := hw.symm) | (go_at_call 14; refine (unit_any _ _).mono ?_; rintro e w' ⟨rfl, hw⟩; obtain rfl := hw.symm))
  go_ret
  exact ⟨rfl, rfl⟩

end Go.Proofs.Ytcaffmnoddjoiaa
