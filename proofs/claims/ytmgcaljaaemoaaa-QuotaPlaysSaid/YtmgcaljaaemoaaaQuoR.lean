/- The contracts of the reference's quotas (package garthref06). -/
import Derived.Test.YtmgcaljaaemoaaaQuo
import Derived.Test.YtmgcaljaaemoaaaRef04
namespace Go.Proofs.Ytmgcaljaaemoaaa
open Go.RowKit Flt
set_option linter.unusedVariables false

def refCells (q : QS) : Array Value := #[.int .i64 q.lB, .int .i64 q.lP, .int .i64 q.cB, .int .i64 q.cP, .int .i64 q.rB, .int .i64 q.rP]
def Rat (w : World) (b : Nat) (q : QS) : Prop := w.heap[b]? = some (.cells (refCells q) 46 (0, 0))
theorem Rat.cells {w : World} {b : Nat} {q : QS} (h : Rat w b q) :
    (w.cell? ⟨b, 0, none⟩ = some (.int .i64 q.lB) ∧ w.cell? ⟨b, 1, none⟩ = some (.int .i64 q.lP) ∧ w.cell? ⟨b, 2, none⟩ = some (.int .i64 q.cB) ∧ w.cell? ⟨b, 3, none⟩ = some (.int .i64 q.cP) ∧ w.cell? ⟨b, 4, none⟩ = some (.int .i64 q.rB) ∧ w.cell? ⟨b, 5, none⟩ = some (.int .i64 q.rP)) ∧
    (w.frozen? ⟨b, 0, none⟩ = false ∧ w.frozen? ⟨b, 1, none⟩ = false ∧ w.frozen? ⟨b, 2, none⟩ = false ∧ w.frozen? ⟨b, 3, none⟩ = false ∧ w.frozen? ⟨b, 4, none⟩ = false ∧ w.frozen? ⟨b, 5, none⟩ = false) ∧ b < w.heap.size := by
  unfold Rat refCells at h
  refine ⟨⟨?_, ?_, ?_, ?_, ?_, ?_⟩, ⟨?_, ?_, ?_, ?_, ?_, ?_⟩, lt_of_block h⟩ <;> simp [World.cell?, World.frozen?, h]
theorem Rat.only {w w' : World} {b : Nat} {q : QS} {bs : Nat → Prop} (h : Rat w b q) (ho : Only bs w w') (hn : ¬ bs b) : Rat w' b q := (ho.block b (lt_of_block h) hn).trans h
theorem Rat.below {w w' : World} {b : Nat} {q : QS} (h : Rat w b q) (hb : Below w.heap.size w w') : Rat w' b q := (hb.block b (lt_of_block h)).trans h
theorem Rat.set0 {w : World} {b : Nat} {q : QS} (h : Rat w b q) (x y : Int) : Rat ((w.setCell ⟨b, 0, none⟩ (.int .i64 x)).setCell ⟨b, 1, none⟩ (.int .i64 y)) b { q with lB := x, lP := y } := heap_set (heap_set h)
theorem Rat.set2 {w : World} {b : Nat} {q : QS} (h : Rat w b q) (x y : Int) : Rat ((w.setCell ⟨b, 2, none⟩ (.int .i64 x)).setCell ⟨b, 3, none⟩ (.int .i64 y)) b { q with cB := x, cP := y } := heap_set (heap_set h)
theorem Rat.set4 {w : World} {b : Nat} {q : QS} (h : Rat w b q) (x y : Int) : Rat ((w.setCell ⟨b, 4, none⟩ (.int .i64 x)).setCell ⟨b, 5, none⟩ (.int .i64 y)) b { q with rB := x, rP := y } := heap_set (heap_set h)

def RPost (w : World) (wb : Nat) (k : Int) (q : QS) (e : Ending) (w' : World) : Prop := e = .returned (.int .i64 k) ∧ Rat w' wb q ∧ Only (· = wb) w w'

theorem new_free1 (W : World) (o : Obj) (c : Array Value) (t : TypeId) {i : Nat} : ((W.alloc o).alloc (.cells c t)).frozen? ⟨W.heap.size + 1, i, none⟩ = false := by
  have h := heap_alloc_new (W.alloc o) (.cells c t)
  rw [World.size_alloc] at h
  simp only [World.frozen?, h]
  simp

set_option maxHeartbeats 1000000 in
theorem refAll (wb : Nat) (q : QS) (b p : Int) (w : World) (hwf : q.wf) (hb : okS b p = true) (hq : Rat w wb q) :
    Calls Try.prog 40 #[.pointer (some ⟨wb, 0, none⟩), .agg #[.int .i64 b, .int .i64 p]] w fun e w' => e = .returned (.agg #[.int .i64 (q.cB + q.rB + b), .int .i64 (q.cP + q.rP + p)]) ∧ Below w.heap.size w w' := by
  obtain ⟨b0, b1, p0, p1⟩ := okS_iff.1 hb
  obtain ⟨h0, h1, h2, h3, h4, h5, h6, h7, h8, h9⟩ := hwf
  obtain ⟨⟨z0, z1, z2, z3, z4, z5⟩, _, hlt⟩ := hq.cells
  have g1 := IntWalk.i64_in (q.cB + q.rB) (by omega)
  have g2 := IntWalk.i64_in (q.cB + q.rB + b) (by omega)
  have g3 := IntWalk.i64_in (q.cP + q.rP) (by omega)
  have g4 := IntWalk.i64_in (q.cP + q.rP + p) (by omega)
  have hne : wb ≠ w.heap.size := by omega
  have hne2 : wb ≠ w.heap.size + 1 := by omega
  go_enter Try.func40, Try.ntmps40
  go_wp2_with fail
  refine wp_name (fun W => Rat W wb q ∧ W.cell? ⟨w.heap.size, 0, none⟩ = some (.int .i64 b) ∧ W.cell? ⟨w.heap.size, 1, none⟩ = some (.int .i64 p) ∧ W.cell? ⟨w.heap.size + 1, 0, none⟩ = some (.int .i64 0) ∧ W.cell? ⟨w.heap.size + 1, 1, none⟩ = some (.int .i64 0) ∧
    W.frozen? ⟨w.heap.size + 1, 0, none⟩ = false ∧ W.frozen? ⟨w.heap.size + 1, 1, none⟩ = false ∧ Below w.heap.size w W) ⟨hq.only (bs := fun _ => False) (((Only.refl _ _).alloc _).alloc _) (fun q => q), keep_alloc (new_cell rfl), keep_alloc (new_cell rfl), new_cell1 rfl, new_cell1 rfl, new_free1 _ _ _ _, new_free1 _ _ _ _, below_alloc (by simp) (below_alloc (Nat.le_refl _) (Below.refl _ _))⟩ ?_
  rintro W ⟨hQ, y0, y1, y2, y3, y4, y5, hB⟩
  clear z0 z1 z2 z3 z4 z5 hq
  obtain ⟨⟨z0, z1, z2, z3, z4, z5⟩, _, _⟩ := hQ.cells
  replace hQ := Lib.hid hQ
  go_still_tail 29, (by kernel_rfl)
  change wpList _ _ _ _ _ W.drew
  go_wp2_with fail
  exact bodyPost_ret (v := .agg #[.int .i64 (q.cB + q.rB + b), .int .i64 (q.cP + q.rP + p)]) (by simp [results, Try.results40, go_sem, y2, y3]) rfl ⟨rfl, ((hB.setCell (p := ⟨w.heap.size + 1, 0, none⟩) (by simp) _).setCell (p := ⟨w.heap.size + 1, 1, none⟩) (by simp) _).drew⟩

theorem heap_b {W W1 : World} {b : Nat} {o : Obj} (hb : Below W.heap.size W W1) (h : W.heap[b]? = some o) : W1.heap[b]? = some o := (hb.block b (lt_of_block h)).trans h
theorem heap_d {W : World} {b : Nat} {o : Obj} (h : W.heap[b]? = some o) : W.drew.heap[b]? = some o := h
theorem refFits_b (a b c d : Int) (k : Bool) (hk : fitsB a b c d = k) (w : World) :
    Calls Try.prog 39 #[.agg #[.int .i64 a, .int .i64 b], .agg #[.int .i64 c, .int .i64 d]] w fun e w' => e = .returned (.bool k) ∧ Below w.heap.size w w' := by
  refine (refFits_any a b c d w).mono ?_
  rintro e w' ⟨rfl, rfl⟩
  rw [hk]
  exact ⟨rfl, below_alloc (by simp) (below_alloc (Nat.le_refl _) (Below.refl _ _))⟩
theorem fitsB_yes {a b c d : Int} (h : a ≤ c ∧ b ≤ d) : fitsB a b c d = true := fitsB_iff.2 h
theorem fitsB_no {a b c d : Int} (h : ¬ (a ≤ c ∧ b ≤ d)) : fitsB a b c d = false := by rw [← Bool.not_eq_true, fitsB_iff]; exact h

theorem Only.of_below2 {bs : Nat → Prop} {a w : World} (h : Below a.heap.size a w) : Only bs a w := ⟨h.os, h.tape, h.output, h.size, fun k hk _ => h.block k hk⟩

set_option maxHeartbeats 1000000 in
theorem refReserve_any (wb : Nat) (q : QS) (b p : Int) (w : World) (hwf : q.wf) (hb : okS b p = true) (hq : Rat w wb q) :
    Calls Try.prog 30 #[.pointer (some ⟨wb, 0, none⟩), .agg #[.int .i64 b, .int .i64 p]] w (RPost w wb (q.resE b p) (q.res b p)) := by
  obtain ⟨b0, b1, p0, p1⟩ := okS_iff.1 hb
  have hwf0 := hwf
  obtain ⟨h0, h1, h2, h3, h4, h5, h6, h7, h8, h9⟩ := hwf0
  replace hwf := Lib.hid hwf
  by_cases hfit : q.cB + q.rB + b ≤ q.lB ∧ q.cP + q.rP + p ≤ q.lP
  · rw [show q.resE b p = 0 by unfold QS.resE; rw [if_pos hfit], show q.res b p = { q with rB := q.rB + b, rP := q.rP + p } by unfold QS.res; rw [if_pos hfit]]
    have hF := Lib.hid (fitsB_yes hfit)
    have g1 := IntWalk.i64_in (q.rB + b) (by omega)
    have g2 := IntWalk.i64_in (q.rP + p) (by omega)
    clear hfit
    replace hb := Lib.hid hb
    go_enter Try.func30, Try.ntmps30
    go_wp2_with fail
    refine wp_name (fun W => Rat W wb q ∧ W.cell? ⟨w.heap.size, 0, none⟩ = some (.int .i64 b) ∧ W.cell? ⟨w.heap.size, 1, none⟩ = some (.int .i64 p) ∧ Below w.heap.size w W) ⟨hq.only (bs := fun _ => False) ((Only.refl _ _).alloc _) (fun q => q), new_cell rfl, new_cell rfl, below_alloc (Nat.le_refl _) (Below.refl _ _)⟩ ?_
    rintro W ⟨hQ, y0, y1, hB⟩
    obtain ⟨⟨z0, z1, z2, z3, z4, z5⟩, ⟨f0, f1, f2, f3, f4, f5⟩, hl⟩ := hQ.cells
    replace hQ : W.heap[wb]? = some (.cells (refCells q) 46 (0, 0)) := hQ
    clear hq
    go_region_held3 (fun W => W.heap[wb]? = some (.cells (refCells q) 46 (0, 0)) ∧ W.cell? ⟨wb, 0, none⟩ = some (.int .i64 q.lB) ∧ W.cell? ⟨wb, 1, none⟩ = some (.int .i64 q.lP) ∧ W.cell? ⟨wb, 2, none⟩ = some (.int .i64 q.cB) ∧ W.cell? ⟨wb, 3, none⟩ = some (.int .i64 q.cP) ∧ W.cell? ⟨wb, 4, none⟩ = some (.int .i64 q.rB) ∧ W.cell? ⟨wb, 5, none⟩ = some (.int .i64 q.rP) ∧ W.cell? ⟨w.heap.size, 0, none⟩ = some (.int .i64 b) ∧ W.cell? ⟨w.heap.size, 1, none⟩ = some (.int .i64 p) ∧ Below w.heap.size w W) (((try dsimp only at *); go_split_ands; refine ⟨?_, ?_, ?_, ?_, ?_, ?_, ?_, ?_, ?_, ?_⟩ <;> (first | with_reducible assumption | with_reducible exact keep_b hb2 (by with_reducible assumption) | with_reducible exact keep_drew (by with_reducible assumption) | with_reducible exact keep_b hb2 (keep_drew (by with_reducible assumption)) | with_reducible exact below_s (by with_reducible assumption) hb2 | with_reducible exact below_s (by with_reducible exact Below.drew (by with_reducible assumption)) hb2 | with_reducible exact Below.drew (by with_reducible assumption) | exact heap_b hb2 (by with_reducible assumption) | exact heap_d (by with_reducible assumption) | exact heap_b hb2 (heap_d (by with_reducible assumption))))) (first | (go_at_call 39; refine (refFits_b _ _ _ _ _ hF.out _).mono ?_; rintro e w2 ⟨rfl, hb2⟩) | (go_at_call 40; refine (refAll wb q b p _ hwf.out hb.out (by assumption)).mono ?_; rintro e w2 ⟨rfl, hb2⟩))
    clear hQ y0 y1 hB z0 z1 z2 z3 z4 z5 f0 f1 f2 f3 f4 f5 hl hb2
    go_split_ands
    rename_i hQ z0 z1 z2 z3 z4 z5 y0 y1 hB
    go_wp2_with fail
    refine wp_name (fun W => Rat W wb q ∧ W.cell? ⟨w.heap.size, 0, none⟩ = some (.int .i64 b) ∧ W.cell? ⟨w.heap.size, 1, none⟩ = some (.int .i64 p) ∧ Below w.heap.size w W) ⟨hQ, y0, y1, hB⟩ ?_
    clear hQ y0 y1 hB z0 z1 z2 z3 z4 z5
    rintro W ⟨hQ, y0, y1, hB⟩
    obtain ⟨⟨z0, z1, z2, z3, z4, z5⟩, ⟨f0, f1, f2, f3, f4, f5⟩, hl⟩ := hQ.cells
    have hset := Lib.hid (hQ.set4 (q.rB + b) (q.rP + p))
    clear hQ
    go_still_tail 20, (by kernel_rfl)
    change wpList _ _ _ _ _ W.drew
    go_wp2_with fail
    go_ret
    exact ⟨rfl, hset.out, (((Only.of_below2 (bs := (· = wb)) hB).setCell (p := ⟨wb, 4, none⟩) (fun _ => rfl) _).setCell (p := ⟨wb, 5, none⟩) (fun _ => rfl) _).drew⟩
  · rw [show q.resE b p = 3 by unfold QS.resE; rw [if_neg hfit], show q.res b p = q by unfold QS.res; rw [if_neg hfit]]
    have hF := Lib.hid (fitsB_no hfit)
    clear hfit
    replace hb := Lib.hid hb
    go_enter Try.func30, Try.ntmps30
    go_wp2_with fail
    refine wp_name (fun W => Rat W wb q ∧ W.cell? ⟨w.heap.size, 0, none⟩ = some (.int .i64 b) ∧ W.cell? ⟨w.heap.size, 1, none⟩ = some (.int .i64 p) ∧ Below w.heap.size w W) ⟨hq.only (bs := fun _ => False) ((Only.refl _ _).alloc _) (fun q => q), new_cell rfl, new_cell rfl, below_alloc (Nat.le_refl _) (Below.refl _ _)⟩ ?_
    rintro W ⟨hQ, y0, y1, hB⟩
    obtain ⟨⟨z0, z1, z2, z3, z4, z5⟩, ⟨f0, f1, f2, f3, f4, f5⟩, hl⟩ := hQ.cells
    replace hQ : W.heap[wb]? = some (.cells (refCells q) 46 (0, 0)) := hQ
    clear hq
    go_region_held3 (fun W => W.heap[wb]? = some (.cells (refCells q) 46 (0, 0)) ∧ W.cell? ⟨wb, 0, none⟩ = some (.int .i64 q.lB) ∧ W.cell? ⟨wb, 1, none⟩ = some (.int .i64 q.lP) ∧ W.cell? ⟨wb, 2, none⟩ = some (.int .i64 q.cB) ∧ W.cell? ⟨wb, 3, none⟩ = some (.int .i64 q.cP) ∧ W.cell? ⟨wb, 4, none⟩ = some (.int .i64 q.rB) ∧ W.cell? ⟨wb, 5, none⟩ = some (.int .i64 q.rP) ∧ W.cell? ⟨w.heap.size, 0, none⟩ = some (.int .i64 b) ∧ W.cell? ⟨w.heap.size, 1, none⟩ = some (.int .i64 p) ∧ Below w.heap.size w W) (((try dsimp only at *); go_split_ands; refine ⟨?_, ?_, ?_, ?_, ?_, ?_, ?_, ?_, ?_, ?_⟩ <;> (first | with_reducible assumption | with_reducible exact keep_b hb2 (by with_reducible assumption) | with_reducible exact keep_drew (by with_reducible assumption) | with_reducible exact keep_b hb2 (keep_drew (by with_reducible assumption)) | with_reducible exact below_s (by with_reducible assumption) hb2 | with_reducible exact below_s (by with_reducible exact Below.drew (by with_reducible assumption)) hb2 | with_reducible exact Below.drew (by with_reducible assumption) | exact heap_b hb2 (by with_reducible assumption) | exact heap_d (by with_reducible assumption) | exact heap_b hb2 (heap_d (by with_reducible assumption))))) (first | (go_at_call 39; refine (refFits_b _ _ _ _ _ hF.out _).mono ?_; rintro e w2 ⟨rfl, hb2⟩) | (go_at_call 40; refine (refAll wb q b p _ hwf.out hb.out (by assumption)).mono ?_; rintro e w2 ⟨rfl, hb2⟩))
    clear hQ y0 y1 hB z0 z1 z2 z3 z4 z5 f0 f1 f2 f3 f4 f5 hl hb2
    go_split_ands
    rename_i hQ z0 z1 z2 z3 z4 z5 y0 y1 hB
    go_wp2_with fail
    go_ret
    exact ⟨rfl, hQ, Only.of_below2 hB⟩

set_option maxHeartbeats 1000000 in
theorem refCancel_any (wb : Nat) (q : QS) (b p : Int) (w : World) (hwf : q.wf) (hb : okS b p = true) (hq : Rat w wb q) :
    Calls Try.prog 32 #[.pointer (some ⟨wb, 0, none⟩), .agg #[.int .i64 b, .int .i64 p]] w (RPost w wb (q.canE b p) (q.can b p)) := by
  obtain ⟨b0, b1, p0, p1⟩ := okS_iff.1 hb
  have hwf0 := hwf
  obtain ⟨h0, h1, h2, h3, h4, h5, h6, h7, h8, h9⟩ := hwf0
  replace hwf := Lib.hid hwf
  by_cases hfit : b ≤ q.rB ∧ p ≤ q.rP
  · rw [show q.canE b p = 0 by unfold QS.canE; rw [if_pos hfit], show q.can b p = { q with rB := q.rB - b, rP := q.rP - p } by unfold QS.can; rw [if_pos hfit]]
    have hF := Lib.hid (fitsB_yes hfit)
    have g1 := IntWalk.i64_in (q.rB - b) (by omega)
    have g2 := IntWalk.i64_in (q.rP - p) (by omega)
    clear hfit
    replace hb := Lib.hid hb
    go_enter Try.func32, Try.ntmps32
    go_wp2_with fail
    refine wp_name (fun W => Rat W wb q ∧ W.cell? ⟨w.heap.size, 0, none⟩ = some (.int .i64 b) ∧ W.cell? ⟨w.heap.size, 1, none⟩ = some (.int .i64 p) ∧ Below w.heap.size w W) ⟨hq.only (bs := fun _ => False) ((Only.refl _ _).alloc _) (fun q => q), new_cell rfl, new_cell rfl, below_alloc (Nat.le_refl _) (Below.refl _ _)⟩ ?_
    rintro W ⟨hQ, y0, y1, hB⟩
    obtain ⟨⟨z0, z1, z2, z3, z4, z5⟩, ⟨f0, f1, f2, f3, f4, f5⟩, hl⟩ := hQ.cells
    replace hQ : W.heap[wb]? = some (.cells (refCells q) 46 (0, 0)) := hQ
    clear hq
    go_region_held3 (fun W => W.heap[wb]? = some (.cells (refCells q) 46 (0, 0)) ∧ W.cell? ⟨wb, 0, none⟩ = some (.int .i64 q.lB) ∧ W.cell? ⟨wb, 1, none⟩ = some (.int .i64 q.lP) ∧ W.cell? ⟨wb, 2, none⟩ = some (.int .i64 q.cB) ∧ W.cell? ⟨wb, 3, none⟩ = some (.int .i64 q.cP) ∧ W.cell? ⟨wb, 4, none⟩ = some (.int .i64 q.rB) ∧ W.cell? ⟨wb, 5, none⟩ = some (.int .i64 q.rP) ∧ W.cell? ⟨w.heap.size, 0, none⟩ = some (.int .i64 b) ∧ W.cell? ⟨w.heap.size, 1, none⟩ = some (.int .i64 p) ∧ Below w.heap.size w W) (((try dsimp only at *); go_split_ands; refine ⟨?_, ?_, ?_, ?_, ?_, ?_, ?_, ?_, ?_, ?_⟩ <;> (first | with_reducible assumption | with_reducible exact keep_b hb2 (by with_reducible assumption) | with_reducible exact keep_drew (by with_reducible assumption) | with_reducible exact keep_b hb2 (keep_drew (by with_reducible assumption)) | with_reducible exact below_s (by with_reducible assumption) hb2 | with_reducible exact below_s (by with_reducible exact Below.drew (by with_reducible assumption)) hb2 | with_reducible exact Below.drew (by with_reducible assumption) | exact heap_b hb2 (by with_reducible assumption) | exact heap_d (by with_reducible assumption) | exact heap_b hb2 (heap_d (by with_reducible assumption))))) (first | (go_at_call 39; refine (refFits_b _ _ _ _ _ hF.out _).mono ?_; rintro e w2 ⟨rfl, hb2⟩))
    clear hQ y0 y1 hB z0 z1 z2 z3 z4 z5 f0 f1 f2 f3 f4 f5 hl hb2
    go_split_ands
    rename_i hQ z0 z1 z2 z3 z4 z5 y0 y1 hB
    go_wp2_with fail
    refine wp_name (fun W => Rat W wb q ∧ W.cell? ⟨w.heap.size, 0, none⟩ = some (.int .i64 b) ∧ W.cell? ⟨w.heap.size, 1, none⟩ = some (.int .i64 p) ∧ Below w.heap.size w W) ⟨hQ, y0, y1, hB⟩ ?_
    clear hQ y0 y1 hB z0 z1 z2 z3 z4 z5
    rintro W ⟨hQ, y0, y1, hB⟩
    obtain ⟨⟨z0, z1, z2, z3, z4, z5⟩, ⟨f0, f1, f2, f3, f4, f5⟩, hl⟩ := hQ.cells
    have hset := Lib.hid (hQ.set4 (q.rB - b) (q.rP - p))
    clear hQ
    go_still_tail 20, (by kernel_rfl)
    change wpList _ _ _ _ _ W.drew
    go_wp2_with fail
    go_ret
    exact ⟨rfl, hset.out, (((Only.of_below2 (bs := (· = wb)) hB).setCell (p := ⟨wb, 4, none⟩) (fun _ => rfl) _).setCell (p := ⟨wb, 5, none⟩) (fun _ => rfl) _).drew⟩
  · rw [show q.canE b p = 12 by unfold QS.canE; rw [if_neg hfit], show q.can b p = q by unfold QS.can; rw [if_neg hfit]]
    have hF := Lib.hid (fitsB_no hfit)
    clear hfit
    replace hb := Lib.hid hb
    go_enter Try.func32, Try.ntmps32
    go_wp2_with fail
    refine wp_name (fun W => Rat W wb q ∧ W.cell? ⟨w.heap.size, 0, none⟩ = some (.int .i64 b) ∧ W.cell? ⟨w.heap.size, 1, none⟩ = some (.int .i64 p) ∧ Below w.heap.size w W) ⟨hq.only (bs := fun _ => False) ((Only.refl _ _).alloc _) (fun q => q), new_cell rfl, new_cell rfl, below_alloc (Nat.le_refl _) (Below.refl _ _)⟩ ?_
    rintro W ⟨hQ, y0, y1, hB⟩
    obtain ⟨⟨z0, z1, z2, z3, z4, z5⟩, ⟨f0, f1, f2, f3, f4, f5⟩, hl⟩ := hQ.cells
    replace hQ : W.heap[wb]? = some (.cells (refCells q) 46 (0, 0)) := hQ
    clear hq
    go_region_held3 (fun W => W.heap[wb]? = some (.cells (refCells q) 46 (0, 0)) ∧ W.cell? ⟨wb, 0, none⟩ = some (.int .i64 q.lB) ∧ W.cell? ⟨wb, 1, none⟩ = some (.int .i64 q.lP) ∧ W.cell? ⟨wb, 2, none⟩ = some (.int .i64 q.cB) ∧ W.cell? ⟨wb, 3, none⟩ = some (.int .i64 q.cP) ∧ W.cell? ⟨wb, 4, none⟩ = some (.int .i64 q.rB) ∧ W.cell? ⟨wb, 5, none⟩ = some (.int .i64 q.rP) ∧ W.cell? ⟨w.heap.size, 0, none⟩ = some (.int .i64 b) ∧ W.cell? ⟨w.heap.size, 1, none⟩ = some (.int .i64 p) ∧ Below w.heap.size w W) (((try dsimp only at *); go_split_ands; refine ⟨?_, ?_, ?_, ?_, ?_, ?_, ?_, ?_, ?_, ?_⟩ <;> (first | with_reducible assumption | with_reducible exact keep_b hb2 (by with_reducible assumption) | with_reducible exact keep_drew (by with_reducible assumption) | with_reducible exact keep_b hb2 (keep_drew (by with_reducible assumption)) | with_reducible exact below_s (by with_reducible assumption) hb2 | with_reducible exact below_s (by with_reducible exact Below.drew (by with_reducible assumption)) hb2 | with_reducible exact Below.drew (by with_reducible assumption) | exact heap_b hb2 (by with_reducible assumption) | exact heap_d (by with_reducible assumption) | exact heap_b hb2 (heap_d (by with_reducible assumption))))) (first | (go_at_call 39; refine (refFits_b _ _ _ _ _ hF.out _).mono ?_; rintro e w2 ⟨rfl, hb2⟩))
    clear hQ y0 y1 hB z0 z1 z2 z3 z4 z5 f0 f1 f2 f3 f4 f5 hl hb2
    go_split_ands
    rename_i hQ z0 z1 z2 z3 z4 z5 y0 y1 hB
    go_wp2_with fail
    go_ret
    exact ⟨rfl, hQ, Only.of_below2 hB⟩

set_option maxHeartbeats 1000000 in
theorem refRefund_any (wb : Nat) (q : QS) (b p : Int) (w : World) (hwf : q.wf) (hb : okS b p = true) (hq : Rat w wb q) :
    Calls Try.prog 33 #[.pointer (some ⟨wb, 0, none⟩), .agg #[.int .i64 b, .int .i64 p]] w (RPost w wb (q.refE b p) (q.ref b p)) := by
  obtain ⟨b0, b1, p0, p1⟩ := okS_iff.1 hb
  have hwf0 := hwf
  obtain ⟨h0, h1, h2, h3, h4, h5, h6, h7, h8, h9⟩ := hwf0
  replace hwf := Lib.hid hwf
  by_cases hfit : b ≤ q.cB ∧ p ≤ q.cP
  · rw [show q.refE b p = 0 by unfold QS.refE; rw [if_pos hfit], show q.ref b p = { q with cB := q.cB - b, cP := q.cP - p } by unfold QS.ref; rw [if_pos hfit]]
    have hF := Lib.hid (fitsB_yes hfit)
    have g1 := IntWalk.i64_in (q.cB - b) (by omega)
    have g2 := IntWalk.i64_in (q.cP - p) (by omega)
    clear hfit
    replace hb := Lib.hid hb
    go_enter Try.func33, Try.ntmps33
    go_wp2_with fail
    refine wp_name (fun W => Rat W wb q ∧ W.cell? ⟨w.heap.size, 0, none⟩ = some (.int .i64 b) ∧ W.cell? ⟨w.heap.size, 1, none⟩ = some (.int .i64 p) ∧ Below w.heap.size w W) ⟨hq.only (bs := fun _ => False) ((Only.refl _ _).alloc _) (fun q => q), new_cell rfl, new_cell rfl, below_alloc (Nat.le_refl _) (Below.refl _ _)⟩ ?_
    rintro W ⟨hQ, y0, y1, hB⟩
    obtain ⟨⟨z0, z1, z2, z3, z4, z5⟩, ⟨f0, f1, f2, f3, f4, f5⟩, hl⟩ := hQ.cells
    replace hQ : W.heap[wb]? = some (.cells (refCells q) 46 (0, 0)) := hQ
    clear hq
    go_region_held3 (fun W => W.heap[wb]? = some (.cells (refCells q) 46 (0, 0)) ∧ W.cell? ⟨wb, 0, none⟩ = some (.int .i64 q.lB) ∧ W.cell? ⟨wb, 1, none⟩ = some (.int .i64 q.lP) ∧ W.cell? ⟨wb, 2, none⟩ = some (.int .i64 q.cB) ∧ W.cell? ⟨wb, 3, none⟩ = some (.int .i64 q.cP) ∧ W.cell? ⟨wb, 4, none⟩ = some (.int .i64 q.rB) ∧ W.cell? ⟨wb, 5, none⟩ = some (.int .i64 q.rP) ∧ W.cell? ⟨w.heap.size, 0, none⟩ = some (.int .i64 b) ∧ W.cell? ⟨w.heap.size, 1, none⟩ = some (.int .i64 p) ∧ Below w.heap.size w W) (((try dsimp only at *); go_split_ands; refine ⟨?_, ?_, ?_, ?_, ?_, ?_, ?_, ?_, ?_, ?_⟩ <;> (first | with_reducible assumption | with_reducible exact keep_b hb2 (by with_reducible assumption) | with_reducible exact keep_drew (by with_reducible assumption) | with_reducible exact keep_b hb2 (keep_drew (by with_reducible assumption)) | with_reducible exact below_s (by with_reducible assumption) hb2 | with_reducible exact below_s (by with_reducible exact Below.drew (by with_reducible assumption)) hb2 | with_reducible exact Below.drew (by with_reducible assumption) | exact heap_b hb2 (by with_reducible assumption) | exact heap_d (by with_reducible assumption) | exact heap_b hb2 (heap_d (by with_reducible assumption))))) (first | (go_at_call 39; refine (refFits_b _ _ _ _ _ hF.out _).mono ?_; rintro e w2 ⟨rfl, hb2⟩))
    clear hQ y0 y1 hB z0 z1 z2 z3 z4 z5 f0 f1 f2 f3 f4 f5 hl hb2
    go_split_ands
    rename_i hQ z0 z1 z2 z3 z4 z5 y0 y1 hB
    go_wp2_with fail
    refine wp_name (fun W => Rat W wb q ∧ W.cell? ⟨w.heap.size, 0, none⟩ = some (.int .i64 b) ∧ W.cell? ⟨w.heap.size, 1, none⟩ = some (.int .i64 p) ∧ Below w.heap.size w W) ⟨hQ, y0, y1, hB⟩ ?_
    clear hQ y0 y1 hB z0 z1 z2 z3 z4 z5
    rintro W ⟨hQ, y0, y1, hB⟩
    obtain ⟨⟨z0, z1, z2, z3, z4, z5⟩, ⟨f0, f1, f2, f3, f4, f5⟩, hl⟩ := hQ.cells
    have hset := Lib.hid (hQ.set2 (q.cB - b) (q.cP - p))
    clear hQ
    go_still_tail 20, (by kernel_rfl)
    change wpList _ _ _ _ _ W.drew
    go_wp2_with fail
    go_ret
    exact ⟨rfl, hset.out, (((Only.of_below2 (bs := (· = wb)) hB).setCell (p := ⟨wb, 2, none⟩) (fun _ => rfl) _).setCell (p := ⟨wb, 3, none⟩) (fun _ => rfl) _).drew⟩
  · rw [show q.refE b p = 12 by unfold QS.refE; rw [if_neg hfit], show q.ref b p = q by unfold QS.ref; rw [if_neg hfit]]
    have hF := Lib.hid (fitsB_no hfit)
    clear hfit
    replace hb := Lib.hid hb
    go_enter Try.func33, Try.ntmps33
    go_wp2_with fail
    refine wp_name (fun W => Rat W wb q ∧ W.cell? ⟨w.heap.size, 0, none⟩ = some (.int .i64 b) ∧ W.cell? ⟨w.heap.size, 1, none⟩ = some (.int .i64 p) ∧ Below w.heap.size w W) ⟨hq.only (bs := fun _ => False) ((Only.refl _ _).alloc _) (fun q => q), new_cell rfl, new_cell rfl, below_alloc (Nat.le_refl _) (Below.refl _ _)⟩ ?_
    rintro W ⟨hQ, y0, y1, hB⟩
    obtain ⟨⟨z0, z1, z2, z3, z4, z5⟩, ⟨f0, f1, f2, f3, f4, f5⟩, hl⟩ := hQ.cells
    replace hQ : W.heap[wb]? = some (.cells (refCells q) 46 (0, 0)) := hQ
    clear hq
    go_region_held3 (fun W => W.heap[wb]? = some (.cells (refCells q) 46 (0, 0)) ∧ W.cell? ⟨wb, 0, none⟩ = some (.int .i64 q.lB) ∧ W.cell? ⟨wb, 1, none⟩ = some (.int .i64 q.lP) ∧ W.cell? ⟨wb, 2, none⟩ = some (.int .i64 q.cB) ∧ W.cell? ⟨wb, 3, none⟩ = some (.int .i64 q.cP) ∧ W.cell? ⟨wb, 4, none⟩ = some (.int .i64 q.rB) ∧ W.cell? ⟨wb, 5, none⟩ = some (.int .i64 q.rP) ∧ W.cell? ⟨w.heap.size, 0, none⟩ = some (.int .i64 b) ∧ W.cell? ⟨w.heap.size, 1, none⟩ = some (.int .i64 p) ∧ Below w.heap.size w W) (((try dsimp only at *); go_split_ands; refine ⟨?_, ?_, ?_, ?_, ?_, ?_, ?_, ?_, ?_, ?_⟩ <;> (first | with_reducible assumption | with_reducible exact keep_b hb2 (by with_reducible assumption) | with_reducible exact keep_drew (by with_reducible assumption) | with_reducible exact keep_b hb2 (keep_drew (by with_reducible assumption)) | with_reducible exact below_s (by with_reducible assumption) hb2 | with_reducible exact below_s (by with_reducible exact Below.drew (by with_reducible assumption)) hb2 | with_reducible exact Below.drew (by with_reducible assumption) | exact heap_b hb2 (by with_reducible assumption) | exact heap_d (by with_reducible assumption) | exact heap_b hb2 (heap_d (by with_reducible assumption))))) (first | (go_at_call 39; refine (refFits_b _ _ _ _ _ hF.out _).mono ?_; rintro e w2 ⟨rfl, hb2⟩))
    clear hQ y0 y1 hB z0 z1 z2 z3 z4 z5 f0 f1 f2 f3 f4 f5 hl hb2
    go_split_ands
    rename_i hQ z0 z1 z2 z3 z4 z5 y0 y1 hB
    go_wp2_with fail
    go_ret
    exact ⟨rfl, hQ, Only.of_below2 hB⟩

end Go.Proofs.Ytmgcaljaaemoaaa
