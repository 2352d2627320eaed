/- 'awake' of chapter 4 answers true. -/
import Derived.Test.YtlabnphdfdaadaaSumw
namespace Go.Proofs.Ytlabnphdfdaadaa
open Go.RowKit Flt

set_option maxHeartbeats 400000 in
theorem awake_any (w : World) : Calls Try.prog 11 #[] w fun e w' => e = .returned (.bool true) ∧ w' = w := by
  go_enter Try.func11, Try.ntmps11
  go_wp2_with fail
  refine (of_yes' 48 1 _ (ok_lit (by omega))).mono ?_; rintro e w' ⟨rfl, rfl⟩
  go_wp2_with fail
  refine (of_yes' 16 0 _ (ok_lit (by omega))).mono ?_; rintro e w' ⟨rfl, rfl⟩
  go_wp2_with fail
  refine (plus_yes 48 1 16 0 _ (ok_lit (by omega)) (ok_lit (by omega)) (ok_lit (by omega))).mono ?_; rintro e w' ⟨rfl, rfl⟩
  go_wp2_with fail
  refine (less_no 16 0 48 1 _ (ok_lit (by omega)) (ok_lit (by omega)) (ok_not (by omega))).mono ?_; rintro e w' ⟨rfl, rfl⟩
  go_wp2_with fail
  refine (bytes_F 64 1 _ (ok_lit (by omega))).mono ?_; rintro e w' ⟨rfl, rfl⟩
  go_wp2_with fail
  refine (pages_F 64 1 _ (ok_lit (by omega))).mono ?_; rintro e w' ⟨rfl, rfl⟩
  go_wp2_with fail
  refine (fits_yes 16 0 48 1 _ (ok_lit (by omega)) (ok_lit (by omega)) (by omega)).mono ?_; rintro e w' ⟨rfl, rfl⟩
  go_wp2_with fail
  refine (fits_no 48 1 16 0 _ (ok_lit (by omega)) (ok_lit (by omega)) (by omega)).mono ?_; rintro e w' ⟨rfl, rfl⟩
  go_wp2_with fail
  go_ret
  exact ⟨rfl, rfl⟩
end Go.Proofs.Ytlabnphdfdaadaa
