/- The reference's Commit and Resize (package garthref06). -/
import Derived.Test.YtmgcaljaaemoaaaQuoR
namespace Go.Proofs.Ytmgcaljaaemoaaa
open Go.RowKit Flt
set_option linter.unusedVariables false

set_option maxHeartbeats 1000000 in
theorem refCommit_any (wb : Nat) (q : QS) (b p : Int) (w : World) (hwf : q.wf) (hb : okS b p = true) (hq : Rat w wb q) :
    Calls Try.prog 31 #[.pointer (some ⟨wb, 0, none⟩), .agg #[.int .i64 b, .int .i64 p]] w (RPost w wb (q.canE b p) (q.com b p)) := by
  obtain ⟨b0, b1, p0, p1⟩ := okS_iff.1 hb
  have hwf0 := hwf
  obtain ⟨h0, h1, h2, h3, h4, h5, h6, h7, h8, h9⟩ := hwf0
  have hlw := hq.cells.2.2
  have hne : ¬ (w.heap.size = wb) := by omega
  have hm := Lib.hid (fun (W : World) (HW : Rat W wb q) => refCancel_any wb q b p W hwf hb HW)
  by_cases hfit : b ≤ q.rB ∧ p ≤ q.rP
  · rw [show q.canE b p = 0 by unfold QS.canE; rw [if_pos hfit], show q.can b p = { q with rB := q.rB - b, rP := q.rP - p } by unfold QS.can; rw [if_pos hfit]] at hm
    rw [show q.canE b p = 0 by unfold QS.canE; rw [if_pos hfit], show q.com b p = { q with rB := q.rB - b, rP := q.rP - p, cB := q.cB + b, cP := q.cP + p } by unfold QS.com; rw [if_pos hfit]]
    have g1 := IntWalk.i64_in (q.cB + b) (by omega)
    have g2 := IntWalk.i64_in (q.cP + p) (by omega)
    clear hfit
    replace hwf := Lib.hid hwf
    replace hb := Lib.hid hb
    go_enter Try.func31, Try.ntmps31
    go_wp2_with fail
    refine (hm.out _ (hq.only (bs := fun _ => False) ((Only.refl _ _).alloc _) (fun q => q))).mono ?_; rintro e w1 ⟨rfl, hQ1, ho⟩
    have y0 := ho.cell (p := ⟨w.heap.size, 0, none⟩) (new_cell rfl) hne
    have y1 := ho.cell (p := ⟨w.heap.size, 1, none⟩) (new_cell rfl) hne
    have hO : Only (· = wb) w w1 := ((Only.refl (· = wb) w).alloc _).seq ho (fun _ _ q => q)
    clear ho hq
    go_wp2_with fail
    refine wp_name (fun W => Rat W wb { q with rB := q.rB - b, rP := q.rP - p } ∧ W.cell? ⟨w.heap.size, 0, none⟩ = some (.int .i64 b) ∧ W.cell? ⟨w.heap.size, 1, none⟩ = some (.int .i64 p) ∧ Only (· = wb) w W) ⟨hQ1, y0, y1, hO⟩ ?_
    clear hQ1 y0 y1 hO
    rintro W1 ⟨hQ, y0, y1, hO⟩
    obtain ⟨⟨z0, z1, z2, z3, z4, z5⟩, ⟨f0, f1, f2, f3, f4, f5⟩, hl⟩ := hQ.cells
    have hset := Lib.hid (hQ.set2 (q.cB + b) (q.cP + p))
    clear hQ
    go_still_tail 20, (by kernel_rfl)
    change wpList _ _ _ _ _ W1.drew
    go_wp2_with fail
    go_ret
    exact ⟨rfl, hset.out, ((hO.setCell (p := ⟨wb, 2, none⟩) (fun _ => rfl) _).setCell (p := ⟨wb, 3, none⟩) (fun _ => rfl) _).drew⟩
  · rw [show q.canE b p = 12 by unfold QS.canE; rw [if_neg hfit], show q.can b p = q by unfold QS.can; rw [if_neg hfit]] at hm
    rw [show q.canE b p = 12 by unfold QS.canE; rw [if_neg hfit], show q.com b p = q by unfold QS.com; rw [if_neg hfit]]
    clear hfit
    replace hwf := Lib.hid hwf
    replace hb := Lib.hid hb
    go_enter Try.func31, Try.ntmps31
    go_wp2_with fail
    refine (hm.out _ (hq.only (bs := fun _ => False) ((Only.refl _ _).alloc _) (fun q => q))).mono ?_; rintro e w1 ⟨rfl, hQ1, ho⟩
    have hO : Only (· = wb) w w1 := ((Only.refl (· = wb) w).alloc _).seq ho (fun _ _ q => q)
    go_wp2_with fail
    go_ret
    exact ⟨rfl, hQ1, hO⟩


theorem sum0_okS : okS 0 0 = true := okS_iff.2 (by omega)

set_option maxHeartbeats 1000000 in
theorem refResize_any (wb : Nat) (q : QS) (b p : Int) (w : World) (hwf : q.wf) (hb : okS b p = true) (hq : Rat w wb q) :
    Calls Try.prog 34 #[.pointer (some ⟨wb, 0, none⟩), .agg #[.int .i64 b, .int .i64 p]] w (RPost w wb (q.sizE b p) (q.siz b p)) := by
  obtain ⟨b0, b1, p0, p1⟩ := okS_iff.1 hb
  replace hwf := Lib.hid hwf
  have hm := Lib.hid (fun (W : World) (HW : Rat W wb q) => refAll wb q 0 0 W hwf.out sum0_okS HW)
  simp only [Int.add_zero] at hm
  by_cases hfit : q.cB + q.rB ≤ b ∧ q.cP + q.rP ≤ p
  · rw [show q.sizE b p = 0 by unfold QS.sizE; rw [if_pos hfit], show q.siz b p = { q with lB := b, lP := p } by unfold QS.siz; rw [if_pos hfit]]
    have hF := Lib.hid (fitsB_yes hfit)
    clear hfit
    replace hb := Lib.hid hb
    go_enter Try.func34, Try.ntmps34
    go_wp2_with fail
    refine wp_name (fun W => Rat W wb q ∧ W.cell? ⟨w.heap.size, 0, none⟩ = some (.int .i64 b) ∧ W.cell? ⟨w.heap.size, 1, none⟩ = some (.int .i64 p) ∧ Below w.heap.size w W) ⟨hq.only (bs := fun _ => False) ((Only.refl _ _).alloc _) (fun q => q), new_cell rfl, new_cell rfl, below_alloc (Nat.le_refl _) (Below.refl _ _)⟩ ?_
    rintro W ⟨hQ, y0, y1, hB⟩
    replace hQ : W.heap[wb]? = some (.cells (refCells q) 46 (0, 0)) := hQ
    clear hq
    go_region_held3 (fun W => W.heap[wb]? = some (.cells (refCells q) 46 (0, 0)) ∧ W.cell? ⟨w.heap.size, 0, none⟩ = some (.int .i64 b) ∧ W.cell? ⟨w.heap.size, 1, none⟩ = some (.int .i64 p) ∧ Below w.heap.size w W) (((try dsimp only at *); go_split_ands; refine ⟨?_, ?_, ?_, ?_⟩ <;> (first | with_reducible assumption | with_reducible exact keep_b hb2 (by with_reducible assumption) | with_reducible exact keep_drew (by with_reducible assumption) | with_reducible exact keep_b hb2 (keep_drew (by with_reducible assumption)) | with_reducible exact below_s (by with_reducible assumption) hb2 | with_reducible exact below_s (by with_reducible exact Below.drew (by with_reducible assumption)) hb2 | with_reducible exact Below.drew (by with_reducible assumption) | exact heap_b hb2 (by with_reducible assumption) | exact heap_d (by with_reducible assumption) | exact heap_b hb2 (heap_d (by with_reducible assumption))))) (first | (go_at_call 39; refine (refFits_b _ _ _ _ _ hF.out _).mono ?_; rintro e w2 ⟨rfl, hb2⟩) | (go_at_call 40; refine (hm.out _ (by assumption)).mono ?_; rintro e w2 ⟨rfl, hb2⟩))
    clear hQ y0 y1 hB hb2
    go_split_ands
    rename_i hQ y0 y1 hB
    replace hQ : Rat _ wb q := hQ
    obtain ⟨⟨z0, z1, z2, z3, z4, z5⟩, ⟨f0, f1, f2, f3, f4, f5⟩, hl⟩ := hQ.cells
    have hset := Lib.hid (hQ.set0 b p)
    clear hQ
    go_wp2_with fail
    go_ret
    exact ⟨rfl, hset.out, ((Only.of_below2 (bs := (· = wb)) hB).setCell (p := ⟨wb, 0, none⟩) (fun _ => rfl) _).setCell (p := ⟨wb, 1, none⟩) (fun _ => rfl) _⟩
  · rw [show q.sizE b p = 3 by unfold QS.sizE; rw [if_neg hfit], show q.siz b p = q by unfold QS.siz; rw [if_neg hfit]]
    have hF := Lib.hid (fitsB_no hfit)
    clear hfit
    replace hb := Lib.hid hb
    go_enter Try.func34, Try.ntmps34
    go_wp2_with fail
    refine wp_name (fun W => Rat W wb q ∧ W.cell? ⟨w.heap.size, 0, none⟩ = some (.int .i64 b) ∧ W.cell? ⟨w.heap.size, 1, none⟩ = some (.int .i64 p) ∧ Below w.heap.size w W) ⟨hq.only (bs := fun _ => False) ((Only.refl _ _).alloc _) (fun q => q), new_cell rfl, new_cell rfl, below_alloc (Nat.le_refl _) (Below.refl _ _)⟩ ?_
    rintro W ⟨hQ, y0, y1, hB⟩
    replace hQ : W.heap[wb]? = some (.cells (refCells q) 46 (0, 0)) := hQ
    clear hq
    go_region_held3 (fun W => W.heap[wb]? = some (.cells (refCells q) 46 (0, 0)) ∧ W.cell? ⟨w.heap.size, 0, none⟩ = some (.int .i64 b) ∧ W.cell? ⟨w.heap.size, 1, none⟩ = some (.int .i64 p) ∧ Below w.heap.size w W) (((try dsimp only at *); go_split_ands; refine ⟨?_, ?_, ?_, ?_⟩ <;> (first | with_reducible assumption | with_reducible exact keep_b hb2 (by with_reducible assumption) | with_reducible exact keep_drew (by with_reducible assumption) | with_reducible exact keep_b hb2 (keep_drew (by with_reducible assumption)) | with_reducible exact below_s (by with_reducible assumption) hb2 | with_reducible exact below_s (by with_reducible exact Below.drew (by with_reducible assumption)) hb2 | with_reducible exact Below.drew (by with_reducible assumption) | exact heap_b hb2 (by with_reducible assumption) | exact heap_d (by with_reducible assumption) | exact heap_b hb2 (heap_d (by with_reducible assumption))))) (first | (go_at_call 39; refine (refFits_b _ _ _ _ _ hF.out _).mono ?_; rintro e w2 ⟨rfl, hb2⟩) | (go_at_call 40; refine (hm.out _ (by assumption)).mono ?_; rintro e w2 ⟨rfl, hb2⟩))
    clear hQ y0 y1 hB hb2
    go_split_ands
    rename_i hQ y0 y1 hB
    go_wp2_with fail
    go_ret
    exact ⟨rfl, hQ, Only.of_below2 hB⟩

end Go.Proofs.Ytmgcaljaaemoaaa
