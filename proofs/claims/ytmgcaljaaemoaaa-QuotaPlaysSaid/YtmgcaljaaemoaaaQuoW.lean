/- awake of chapter 6 (package garthlaw06). -/
import Derived.Test.YtmgcaljaaemoaaaQuoL
namespace Go.Proofs.Ytmgcaljaaemoaaa
open Go.RowKit Flt
set_option linter.unusedVariables false

theorem ok00 : okS 0 0 = true := okS_iff.2 (by omega)
theorem eql_F0 {a b : Int} (h1 : okS a b = true) : ((FloatKind.f64.format.order (F a) 0 == some .eq) && (FloatKind.f64.format.order (F b) 0 == some .eq)) = decide (a = 0 ∧ b = 0) := by
  have := eql_FF h1 ok00
  rwa [F0] at this
theorem eql_00 : ((FloatKind.f64.format.order (F 0) 0 == some .eq) && (FloatKind.f64.format.order (F 0) 0 == some .eq)) = true := by
  rw [eql_F0 ok00]; simp
theorem eql_self {a b : Int} (h1 : okS a b = true) : ((FloatKind.f64.format.order (F a) (F a) == some .eq) && (FloatKind.f64.format.order (F b) (F b) == some .eq)) = true := by
  rw [eql_FF h1 h1]; simp

theorem Qat_new (w : World) (b p : Int) : Qat (w.alloc (.cells #[.complex .f64 (F b) (F p), .complex .f64 0 0, .complex .f64 0 0] 54)) w.heap.size ⟨b, p, 0, 0, 0, 0⟩ := by
  have h := heap_alloc_new w (.cells #[.complex .f64 (F b) (F p), .complex .f64 0 0, .complex .f64 0 0] 54)
  unfold Qat quoCells
  rw [F0]
  exact h
theorem new_Q (b p : Int) (w : World) (hb : okS b p = true) :
    Calls Try.prog 8 #[.complex .f64 (F b) (F p)] w fun e w' => e = .returned (.tuple #[.pointer (some ⟨w.heap.size, 0, none⟩), .int .i64 0]) ∧ Qat w' w.heap.size ⟨b, p, 0, 0, 0, 0⟩ ∧ Below w.heap.size w w' := by
  refine (new_yes b p w hb).mono ?_
  rintro e w' ⟨rfl, rfl⟩
  exact ⟨rfl, Qat_new w b p, below_alloc (Nat.le_refl _) (Below.refl _ _)⟩

theorem newQ_wf {b p : Int} (h : okS b p = true) : QS.wf ⟨b, p, 0, 0, 0, 0⟩ := by
  have := okS_iff.1 h
  unfold QS.wf
  simp only
  omega

theorem awake6 (w : World) : Calls Try.prog 9 #[] w fun e w' => e = .returned (.bool true) ∧ Below w.heap.size w w' := by
  have o1 := Lib.hid (fun w => of_yes' 100 1 w (ok_lit (by omega)))
  have o2 := Lib.hid (fun w => of_yes' 60 0 w (ok_lit (by omega)))
  have o3 := Lib.hid (fun w => of_yes' 50 0 w (ok_lit (by omega)))
  have n1 := Lib.hid (fun w => new_Q 100 1 w (ok_lit (by omega)))
  have wf1 : QS.wf ⟨100, 1, 0, 0, 0, 0⟩ := newQ_wf (ok_lit (by omega))
  have wf2 : QS.wf ⟨100, 1, 0, 0, 60, 0⟩ := by unfold QS.wf; simp
  have wf3 : QS.wf ⟨100, 1, 60, 0, 0, 0⟩ := by unfold QS.wf; simp
  have r1 : Hid (∀ b (W : World), Qat W b ⟨100, 1, 0, 0, 0, 0⟩ → Calls Try.prog 10 #[.pointer (some ⟨b, 0, none⟩), .complex .f64 (F 60) (F 0)] W (QPost W b 0 ⟨100, 1, 0, 0, 60, 0⟩)) := Lib.hid (fun b W h => reserve_yes b _ 60 0 W wf1 (ok_lit (by omega)) h)
  have r2 : Hid (∀ b (W : World), Qat W b ⟨100, 1, 0, 0, 60, 0⟩ → Calls Try.prog 10 #[.pointer (some ⟨b, 0, none⟩), .complex .f64 (F 50) (F 0)] W (QPost W b 3 ⟨100, 1, 0, 0, 60, 0⟩)) := Lib.hid (fun b W h => reserve_yes b _ 50 0 W wf2 (ok_lit (by omega)) h)
  have c1 : Hid (∀ b (W : World), Qat W b ⟨100, 1, 0, 0, 60, 0⟩ → Calls Try.prog 11 #[.pointer (some ⟨b, 0, none⟩), .complex .f64 (F 60) (F 0)] W (QPost W b 0 ⟨100, 1, 60, 0, 0, 0⟩)) := Lib.hid (fun b W h => commit_yes b _ 60 0 W wf2 (ok_lit (by omega)) h)
  have z1 : Hid (∀ b (W : World), Qat W b ⟨100, 1, 60, 0, 0, 0⟩ → Calls Try.prog 16 #[.pointer (some ⟨b, 0, none⟩), .complex .f64 (F 50) (F 0)] W (QPost W b 3 ⟨100, 1, 60, 0, 0, 0⟩)) := Lib.hid (fun b W h => resize_yes b _ 50 0 W wf3 (ok_lit (by omega)) h)
  have g1 : Hid (∀ b (W : World), Qat W b ⟨100, 1, 60, 0, 0, 0⟩ → Calls Try.prog 12 #[.pointer (some ⟨b, 0, none⟩)] W fun e w' => e = .returned (.complex .f64 (F 60) (F 0)) ∧ w' = W) := Lib.hid (fun b W h => charged_any b _ W h)
  have g2 : Hid (∀ b (W : World), Qat W b ⟨100, 1, 60, 0, 0, 0⟩ → Calls Try.prog 13 #[.pointer (some ⟨b, 0, none⟩)] W fun e w' => e = .returned (.complex .f64 (F 0) (F 0)) ∧ w' = W) := Lib.hid (fun b W h => reserved_any b _ W h)
  have he := eql_self (a := 60) (b := 0) (ok_lit (by omega))
  have he0 := eql_00
  clear wf1 wf2 wf3
  go_enter Try.func9, Try.ntmps9
  go_wp2_with fail
  refine (o1.out _).mono ?_; rintro e w' ⟨rfl, hw⟩; obtain rfl := hw.symm; clear hw; go_wp2_with fail
  refine (o2.out _).mono ?_; rintro e w' ⟨rfl, hw⟩; obtain rfl := hw.symm; clear hw; go_wp2_with fail
  refine (o3.out _).mono ?_; rintro e w' ⟨rfl, hw⟩; obtain rfl := hw.symm; clear hw; go_wp2_with fail
  refine (n1.out _).mono ?_; rintro e w1 ⟨rfl, hQ1, hb1⟩
  go_wp2_with fail
  refine (r1.out _ _ hQ1).mono ?_; rintro e w2 ⟨rfl, hQ2, ho2⟩
  go_wp2_with fail
  refine (r2.out _ _ hQ2).mono ?_; rintro e w3 ⟨rfl, hQ3, ho3⟩
  go_wp2_with fail
  refine (c1.out _ _ hQ3).mono ?_; rintro e w4 ⟨rfl, hQ4, ho4⟩
  go_wp2_with fail
  refine (g1.out _ _ hQ4).mono ?_; rintro e w' ⟨rfl, hw⟩; obtain rfl := hw.symm; clear hw; go_wp2_with fail
  refine (g2.out _ _ hQ4).mono ?_; rintro e w' ⟨rfl, hw⟩; obtain rfl := hw.symm; clear hw; go_wp2_with fail
  refine (z1.out _ _ hQ4).mono ?_; rintro e w5 ⟨rfl, hQ5, ho5⟩
  go_wp2_with fail
  go_ret
  exact ⟨rfl, ((((Only.of_below2 (bs := (· = w.heap.size)) hb1).trans ho2).trans ho3).trans ho4 |>.trans ho5).below (Nat.le_refl _) (fun k hk he => by omega)⟩

end Go.Proofs.Ytmgcaljaaemoaaa
