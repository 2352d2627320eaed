/- same of chapter 6 (package garthlaw06). -/
import Derived.Test.YtmgcaljaaemoaaaQuoB
import Derived.Deep.QuietTactic
import Derived.BigQuiet
namespace Go.Proofs.Ytmgcaljaaemoaaa
open Go.RowKit Flt
set_option linter.unusedVariables false

theorem same_yes (a b : Int) (w : World) (h : okS a b = true) :
    Calls Try.prog 22 #[.complex .f64 (F a) (F b), .agg #[.int .i64 a, .int .i64 b]] w fun e w' => e = .returned (.bool true) ∧ Below w.heap.size w w' := by
  have c1 := Lib.hid (fun w => bytes_F a b w h)
  have c2 := Lib.hid (fun w => pages_F a b w h)
  clear h
  go_enter Try.func22, Try.ntmps22
  go_wp2_with fail
  refine wp_name (fun W => W.cell? ⟨w.heap.size, 0, none⟩ = some (.int .i64 a) ∧ W.cell? ⟨w.heap.size, 1, none⟩ = some (.int .i64 b) ∧ Below w.heap.size w W) ⟨new_cell rfl, new_cell rfl, below_alloc (Nat.le_refl _) (Below.refl _ _)⟩ ?_
  rintro W ⟨y0, y1, hB⟩
  go_region_held3 (fun W => W.cell? ⟨w.heap.size, 0, none⟩ = some (.int .i64 a) ∧ W.cell? ⟨w.heap.size, 1, none⟩ = some (.int .i64 b) ∧ Below w.heap.size w W) (((try dsimp only at *); go_split_ands; refine ⟨?_, ?_, ?_⟩ <;> (first | with_reducible assumption | with_reducible exact keep_drew (by with_reducible assumption) | with_reducible exact Below.drew (by with_reducible assumption)))) (first | (go_at_call 35; refine (c1.out _).mono ?_; rintro e w' ⟨rfl, hw⟩; obtain rfl := hw.symm; clear hw) | (go_at_call 36; refine (c2.out _).mono ?_; rintro e w' ⟨rfl, hw⟩; obtain rfl := hw.symm; clear hw))
  clear hB y0 y1
  go_split_ands
  rename_i y0 y1 hB
  go_wp2_with fail
  go_ret
  exact ⟨rfl, hB⟩

end Go.Proofs.Ytmgcaljaaemoaaa
