/- The walk of PlaceApart. -/
import Derived.Test.YtbefbkjhfkdihaaLaw14
import Derived.Test.YtbefbkjhfkdihaaArrEq
import Derived.Deep.RegionHeld3
namespace Go.Proofs.Ytbefbkjhfkdihaa
open Go.RowKit Flt

attribute [local irreducible] smallT unitT kindT perT pagesT alignT chargeT

theorem keep_b {W W1 : World} {p : Addr} {v : Value} (hb : Below W.heap.size W W1) (h : W.cell? p = some v) : W1.cell? p = some v := keep_below hb (block_lt h) h
theorem below_s {a W W1 : World} (h : Below a.heap.size a W) (hb : Below W.heap.size W W1) : Below a.heap.size a W1 := h.trans (hb.mono h.size)

set_option maxHeartbeats 1000000 in
theorem apart_in (c s k d t l : Int) (w : World) (h : thereT c s k = true) (g : thereT d t l = true) :
    Calls Try.prog 6 #[.agg #[.int .i64 c, .int .i64 s, .int .i64 k], .agg #[.int .i64 d, .int .i64 t, .int .i64 l]] w fun e w' => e = .returned (.bool true) ∧ Below w.heap.size w w' := by
  obtain ⟨c0, c1⟩ := there_kind h
  obtain ⟨d0, d1⟩ := there_kind g
  obtain ⟨u0, u1, _⟩ := kind_facts c0 c1
  obtain ⟨v0, v1, _⟩ := kind_facts d0 d1
  obtain ⟨x0, x1, _⟩ := find_pos h
  obtain ⟨y0, y1, _⟩ := find_pos g
  have ha := pos_align h
  have hap := align_pos c0 c1
  have e1 : (posT c s k % alignT c != 0) = false := by rw [bne_eq_false_iff_eq]; exact ha
  have i1 : insideB (posT c s k) (unitT c) = true := by rw [inside_in (by omega) (by omega) (by omega)]; exact decide_eq_true (by omega)
  have i2 : insideB (posT d t l) (unitT d) = true := by rw [inside_in (by omega) (by omega) (by omega)]; exact decide_eq_true (by omega)
  have hd := Lib.hid (pos_apart h g)
  have x2 : posT c s k ≤ 3276800 := by omega
  have y2 : posT d t l ≤ 3276800 := by omega
  have a0 := hap.1
  clear ha hap x1 y1
  have h := Lib.hid h
  have g := Lib.hid g
  rename_i h' g'
  clear h' g'
  go_enter Try.func6, Try.ntmps6
  go_wp2_with fail
  refine (placeOf_yes _ _ _ _ h.out).mono ?_; rintro e w' ⟨rfl, hw⟩; obtain rfl := hw.symm
  clear hw
  go_wp2_with fail
  refine (placeOf_yes _ _ _ _ g.out).mono ?_; rintro e w' ⟨rfl, hw⟩; obtain rfl := hw.symm
  clear hw
  go_wp2_with fail
  refine (awake_any _).mono ?_; rintro e w1 ⟨rfl, n1, hw1⟩
  go_wp2_with fail
  refine wp_name (fun W => (W.cell? ⟨w.heap.size, 0, none⟩ = some (.int .i64 c) ∧ W.cell? ⟨w.heap.size, 1, none⟩ = some (.int .i64 s) ∧ W.cell? ⟨w.heap.size, 2, none⟩ = some (.int .i64 k) ∧ W.cell? ⟨w.heap.size + 1, 0, none⟩ = some (.int .i64 d) ∧ W.cell? ⟨w.heap.size + 1, 1, none⟩ = some (.int .i64 t) ∧ W.cell? ⟨w.heap.size + 1, 2, none⟩ = some (.int .i64 l)) ∧ w.heap.size + 2 ≤ W.heap.size ∧ Below w.heap.size w W) ⟨⟨?_, ?_, ?_, ?_, ?_, ?_⟩, ?_, ?_⟩ ?_
  iterate 3 exact keep_drewN (keep_alloc (new_cell rfl))
  iterate 3 exact keep_drewN (new_cell1 rfl)
  · simp
  · exact belowN (below_alloc (by simp) (below_alloc (Nat.le_refl _) (Below.refl _ _))) _
  rintro W1 ⟨⟨hx0, hx1, hx2, hy0, hy1, hy2⟩, hs1, hb1⟩
  have HF := Lib.hid (show _ ∧ _ ∧ _ ∧ _ ∧ _ ∧ _ ∧ _ ∧ _ ∧ _ ∧ _ ∧ _ ∧ _ from ⟨e1, i1, i2, x0, y0, x2, y2, a0, u0, u1, v0, v1⟩)
  clear e1 i1 i2 x0 y0 x2 y2 a0 u0 u1 v0 v1 c0 c1 d0 d1
  go_region_held3 (fun W => W.cell? ⟨w.heap.size, 0, none⟩ = some (.int .i64 c) ∧ W.cell? ⟨w.heap.size, 1, none⟩ = some (.int .i64 s) ∧ W.cell? ⟨w.heap.size, 2, none⟩ = some (.int .i64 k) ∧ W.cell? ⟨w.heap.size + 1, 0, none⟩ = some (.int .i64 d) ∧ W.cell? ⟨w.heap.size + 1, 1, none⟩ = some (.int .i64 t) ∧ W.cell? ⟨w.heap.size + 1, 2, none⟩ = some (.int .i64 l) ∧ Below w.heap.size w W) (((try dsimp only at *); go_split_ands; refine ⟨?_, ?_, ?_, ?_, ?_, ?_, ?_⟩ <;> (first | with_reducible assumption | with_reducible exact keep_b hb2 (by with_reducible assumption) | with_reducible exact keep_drew (by with_reducible assumption) | with_reducible exact keep_b hb2 (keep_drew (by with_reducible assumption)) | with_reducible exact below_s (by with_reducible assumption) hb2 | with_reducible exact below_s (by with_reducible exact Below.drew (by with_reducible assumption)) hb2 | with_reducible exact Below.drew (by with_reducible assumption)))) (first | (go_at_call 16; refine (refUnit_any _ _).mono ?_; rintro e w2 ⟨rfl, hb2⟩))
  rename_i _ _ hH
  obtain ⟨z0, z1, z2, z3, z4, z5, zb⟩ := hH
  obtain ⟨e1, i1, i2, x0, y0, x2, y2, a0, u0, u1, v0, v1⟩ := HF.out
  clear HF hx0 hx1 hx2 hy0 hy1 hy2 hs1 hb1
  have heq := eq_arr3 Try.underlying35 Try.underlying3 (Option.isSome_iff_exists.1 (by kernel_rfl : (Try.prog.info? 3).isSome = true)).choose_spec (by kernel_rfl) (by kernel_rfl) c s k d t l
  generalize unitT c = m at *
  generalize unitT d = n at *
  generalize posT c s k = x at *
  generalize posT d t l = y at *
  go_wp2_with fail
  refine (refAlign_any _ _).mono ?_; rintro e w3 ⟨rfl, hb3⟩
  go_wp2_with fail
  refine (within2_any _ _ _).mono ?_; rintro e w' ⟨rfl, hw⟩; obtain rfl := hw.symm
  clear hw
  go_wp2_with fail
  refine (within2_any _ _ _).mono ?_; rintro e w' ⟨rfl, hw⟩; obtain rfl := hw.symm
  clear hw
  replace z0 := keep_b hb3 z0
  replace z1 := keep_b hb3 z1
  replace z2 := keep_b hb3 z2
  replace z3 := keep_b hb3 z3
  replace z4 := keep_b hb3 z4
  replace z5 := keep_b hb3 z5
  replace zb := below_s zb hb3
  clear hb3 hb2
  by_cases hA : c = d ∧ s = t ∧ k = l
  · rw [decide_eq_true hA] at heq
    replace hA := Lib.hid hA
    go_wp2_with fail
    go_ret
    exact ⟨rfl, zb⟩
  · rw [decide_eq_false hA] at heq
    by_cases hB : x + m ≤ y
    · clear hA
      go_wp2_with fail
      go_ret
      exact ⟨rfl, zb⟩
    · have hC : y + n ≤ x := by
        rcases hd.out with q | q | q
        · exact (hA q).elim
        · exact (hB q).elim
        · exact q
      clear hA
      go_wp2_with fail
      go_ret
      exact ⟨rfl, zb⟩

theorem apart_out (c s k d t l : Int) (w : World) (h : thereT c s k = false ∨ (thereT c s k = true ∧ thereT d t l = false)) :
    Calls Try.prog 6 #[.agg #[.int .i64 c, .int .i64 s, .int .i64 k], .agg #[.int .i64 d, .int .i64 t, .int .i64 l]] w fun e w' => e = .returned (.bool true) ∧ Below w.heap.size w w' := by
  rcases h with h | ⟨h, g⟩
  · cases g : thereT d t l with
    | true =>
      go_enter Try.func6, Try.ntmps6
      go_wp2_with fail
      refine (placeOf_no _ _ _ _ h).mono ?_; rintro e w' ⟨rfl, hw⟩; obtain rfl := hw.symm
      clear hw
      go_wp2_with fail
      refine (placeOf_yes _ _ _ _ g).mono ?_; rintro e w' ⟨rfl, hw⟩; obtain rfl := hw.symm
      clear hw
      go_wp2_with fail
      refine (awake_any _).mono ?_; rintro e w1 ⟨rfl, n1, hw1⟩
      go_wp2_with fail
      refine (awake_any _).mono ?_; rintro e w2 ⟨rfl, n2, hw2⟩
      go_wp2_with fail
      go_ret
      exact ⟨rfl, belowN (below_alloc (by simp) (below_alloc (Nat.le_refl _) (Below.refl _ _))) _⟩
    | false =>
      go_enter Try.func6, Try.ntmps6
      go_wp2_with fail
      refine (placeOf_no _ _ _ _ h).mono ?_; rintro e w' ⟨rfl, hw⟩; obtain rfl := hw.symm
      clear hw
      go_wp2_with fail
      refine (placeOf_no _ _ _ _ g).mono ?_; rintro e w' ⟨rfl, hw⟩; obtain rfl := hw.symm
      clear hw
      go_wp2_with fail
      refine (awake_any _).mono ?_; rintro e w1 ⟨rfl, n1, hw1⟩
      go_wp2_with fail
      refine (awake_any _).mono ?_; rintro e w2 ⟨rfl, n2, hw2⟩
      go_wp2_with fail
      go_ret
      exact ⟨rfl, belowN (below_alloc (by simp) (below_alloc (Nat.le_refl _) (Below.refl _ _))) _⟩
  · skip
    go_enter Try.func6, Try.ntmps6
    go_wp2_with fail
    refine (placeOf_yes _ _ _ _ h).mono ?_; rintro e w' ⟨rfl, hw⟩; obtain rfl := hw.symm
    clear hw
    go_wp2_with fail
    refine (placeOf_no _ _ _ _ g).mono ?_; rintro e w' ⟨rfl, hw⟩; obtain rfl := hw.symm
    clear hw
    go_wp2_with fail
    refine (awake_any _).mono ?_; rintro e w1 ⟨rfl, n1, hw1⟩
    go_wp2_with fail
    refine (awake_any _).mono ?_; rintro e w2 ⟨rfl, n2, hw2⟩
    go_wp2_with fail
    go_ret
    exact ⟨rfl, belowN (below_alloc (by simp) (below_alloc (Nat.le_refl _) (Below.refl _ _))) _⟩

theorem placeApart_walk (c s k d t l : Int) (w : World) :
    Calls Try.prog 6 #[.agg #[.int .i64 c, .int .i64 s, .int .i64 k], .agg #[.int .i64 d, .int .i64 t, .int .i64 l]] w fun e w' => e = .returned (.bool true) ∧ Below w.heap.size w w' := by
  cases h : thereT c s k with
  | false => exact apart_out c s k d t l w (.inl h)
  | true =>
    cases g : thereT d t l with
    | false => exact apart_out c s k d t l w (.inr ⟨h, g⟩)
    | true => exact apart_in c s k d t l w h g

end Go.Proofs.Ytbefbkjhfkdihaa
