/- The helpers of chapter 6's statements (package garthlaw06). -/
import Derived.Test.YtmgcaljaaemoaaaQuoR2
namespace Go.Proofs.Ytmgcaljaaemoaaa
open Go.RowKit Flt
set_option linter.unusedVariables false

theorem Fneg1 : F (-1) = 13830554455654793216 := by decide +kernel
theorem F0 : F 0 = 0 := by decide +kernel

theorem new_cell2 {w : World} {o1 o2 : Obj} {c : Array Value} {t : TypeId} {i : Nat} {v : Value} (h : c[i]? = some v) : (((w.alloc o1).alloc o2).alloc (.cells c t)).cell? ⟨w.heap.size + 2, i, none⟩ = some v := by
  have k := new_cell (W := (w.alloc o1).alloc o2) (t := t) h
  simpa [World.size_alloc] using k
theorem free_first {w : World} {o1 o2 : Obj} {c : Array Value} {t : TypeId} {i : Nat} : (((w.alloc (.cells c t)).alloc o1).alloc o2).frozen? ⟨w.heap.size, i, none⟩ = false := by
  have h := heap_alloc_new w (.cells c t)
  have hb : Below (w.alloc (.cells c t)).heap.size (w.alloc (.cells c t)) (((w.alloc (.cells c t)).alloc o1).alloc o2) := below_alloc (by simp) (below_alloc (Nat.le_refl _) (Below.refl _ _))
  have h2 := (hb.block w.heap.size (lt_of_block h)).trans h
  simp only [World.frozen?, h2]
  simp

theorem lawOf_yes (a b : Int) (w : World) (h : okS a b = true) :
    Calls Try.prog 7 #[.int .i64 a, .int .i64 b] w fun e w' => e = .returned (.tuple #[.complex .f64 (F a) (F b), .agg #[.int .i64 a, .int .i64 b], .bool true]) ∧ Below w.heap.size w w' := by
  have h1 := Lib.hid (fun w => of_yes' a b w h)
  have h2 := fun w => refOf_any a b w
  simp only [(r_yes h).1, (r_yes h).2.1, (r_yes h).2.2] at h2
  replace h2 := Lib.hid h2
  go_enter Try.func7, Try.ntmps7
  go_wp2_with fail
  refine (h1.out _).mono ?_; rintro e w' ⟨rfl, hw⟩; obtain rfl := hw.symm; clear hw
  go_wp2_with fail
  refine (h2.out _).mono ?_; rintro e w' ⟨rfl, hw⟩; obtain rfl := hw.symm; clear hw
  go_wp2_with fail
  refine wp_name (fun W => W.cell? ⟨w.heap.size + 2, 0, none⟩ = some (.int .i64 a) ∧ W.cell? ⟨w.heap.size + 2, 1, none⟩ = some (.int .i64 b) ∧ W.frozen? ⟨w.heap.size, 0, none⟩ = false ∧ W.frozen? ⟨w.heap.size, 1, none⟩ = false ∧
    W.cell? ⟨w.heap.size, 0, none⟩ = some (.int .i64 0) ∧ W.cell? ⟨w.heap.size, 1, none⟩ = some (.int .i64 0) ∧ Below w.heap.size w W) ⟨?_, ?_, ?_, ?_, ?_, ?_, ?_⟩ ?_
  · exact new_cell2 rfl
  · exact new_cell2 rfl
  · exact free_first
  · exact free_first
  · exact keep_alloc (keep_alloc (new_cell rfl))
  · exact keep_alloc (keep_alloc (new_cell rfl))
  · exact below_alloc (by simp; omega) (below_alloc (by simp) (below_alloc (Nat.le_refl _) (Below.refl _ _)))
  rintro W ⟨y0, y1, f0, f1, z0, z1, hB⟩
  go_still_tail 3, (by kernel_rfl)
  change wpList _ _ _ _ _ W.drew
  go_wp2_with fail
  exact bodyPost_ret (v := .tuple #[.complex .f64 (F a) (F b), .agg #[.int .i64 a, .int .i64 b], .bool true]) (by simp [results, Try.results7, go_sem, z0, z1]) rfl ⟨rfl, ((hB.setCell (p := ⟨w.heap.size, 0, none⟩) (by simp) _).setCell (p := ⟨w.heap.size, 1, none⟩) (by simp) _).drew⟩

theorem lawOf_no (a b : Int) (w : World) (h : okS a b = false) :
    Calls Try.prog 7 #[.int .i64 a, .int .i64 b] w fun e w' => e = .returned (.tuple #[.complex .f64 (F (-1)) (F 0), .agg #[.int .i64 0, .int .i64 0], .bool false]) ∧ Below w.heap.size w w' := by
  have h1 := Lib.hid (fun w => of_no' a b w h)
  have h2 := fun w => refOf_any a b w
  simp only [(r_no h).1, (r_no h).2.1, (r_no h).2.2] at h2
  replace h2 := Lib.hid h2
  go_enter Try.func7, Try.ntmps7
  go_wp2_with fail
  refine (h1.out _).mono ?_; rintro e w' ⟨rfl, hw⟩; obtain rfl := hw.symm; clear hw
  go_wp2_with fail
  refine (h2.out _).mono ?_; rintro e w' ⟨rfl, hw⟩; obtain rfl := hw.symm; clear hw
  go_wp2_with fail
  refine wp_name (fun W => W.cell? ⟨w.heap.size + 2, 0, none⟩ = some (.int .i64 0) ∧ W.cell? ⟨w.heap.size + 2, 1, none⟩ = some (.int .i64 0) ∧ W.frozen? ⟨w.heap.size, 0, none⟩ = false ∧ W.frozen? ⟨w.heap.size, 1, none⟩ = false ∧
    W.cell? ⟨w.heap.size, 0, none⟩ = some (.int .i64 0) ∧ W.cell? ⟨w.heap.size, 1, none⟩ = some (.int .i64 0) ∧ Below w.heap.size w W) ⟨?_, ?_, ?_, ?_, ?_, ?_, ?_⟩ ?_
  · exact new_cell2 rfl
  · exact new_cell2 rfl
  · exact free_first
  · exact free_first
  · exact keep_alloc (keep_alloc (new_cell rfl))
  · exact keep_alloc (keep_alloc (new_cell rfl))
  · exact below_alloc (by simp; omega) (below_alloc (by simp) (below_alloc (Nat.le_refl _) (Below.refl _ _)))
  rintro W ⟨y0, y1, f0, f1, z0, z1, hB⟩
  go_still_tail 2, (by kernel_rfl)
  change wpList _ _ _ _ _ W.drew
  go_wp2_with fail
  exact bodyPost_ret (v := .tuple #[.complex .f64 (F (-1)) (F 0), .agg #[.int .i64 0, .int .i64 0], .bool false]) (by simp [results, Try.results7, go_sem, z0, z1, Fneg1, F0]) rfl ⟨rfl, ((hB.setCell (p := ⟨w.heap.size, 0, none⟩) (by simp) _).setCell (p := ⟨w.heap.size, 1, none⟩) (by simp) _).drew⟩

end Go.Proofs.Ytmgcaljaaemoaaa
