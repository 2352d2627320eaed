/- QuotaHolds: the walk. -/
import Derived.Test.YtmgcaljaaemoaaaQuoB
namespace Go.Proofs.Ytmgcaljaaemoaaa
open Go.RowKit Flt
set_option linter.unusedVariables false

theorem hold_plus {q : QS} (hq : q.wf) (w : World) :
    Calls Try.prog 17 #[.complex .f64 (F q.cB) (F q.cP), .complex .f64 (F q.rB) (F q.rP)] w fun e w' => e = .returned (.tuple #[.complex .f64 (F (q.cB + q.rB)) (F (q.cP + q.rP)), .int .i64 0]) ∧ w' = w := by
  obtain ⟨k1, k2, k3, k4⟩ := QS.ok hq
  exact plus_yes _ _ _ _ w k2 k3 k4
theorem hold_fits {q : QS} (hq : q.wf) (w : World) :
    Calls Try.prog 18 #[.complex .f64 (F (q.cB + q.rB)) (F (q.cP + q.rP)), .complex .f64 (F q.lB) (F q.lP)] w fun e w' => e = .returned (.bool true) ∧ w' = w := by
  obtain ⟨k1, k2, k3, k4⟩ := QS.ok hq
  obtain ⟨h0, h1, h2, h3, h4, h5, h6, h7, h8, h9⟩ := hq
  exact fits_yes _ _ _ _ w k4 k1 ⟨h8, h9⟩

set_option maxRecDepth 20000 in
set_option maxHeartbeats 8000000 in
theorem quotaHolds_walk (b p : Int) (A : Option Addr) (n c : Nat) (xs : List O6) (w : World) (hn : xs.length = n) (hmax : n ≤ maxLen) (hops : opsAt w A xs) :
    Calls Try.prog 4 #[.int .i64 b, .int .i64 p, .slice A n c] w fun e w' => e = .returned (.bool true) ∧ Below w.heap.size w w' := by
  have aw := Lib.hid (fun w => awake6 w)
  cases hb : okS b p with
  | false =>
    have l1 := Lib.hid (fun w => lawOf_no b p w hb)
    have n1 := Lib.hid (fun w => new_no (-1) 0 w (by decide) (by decide) (ok_not (by omega)))
    go_enter Try.func4, Try.ntmps4
    go_wp2_with fail
    refine (l1.out _).mono ?_; rintro e w1 ⟨rfl, hb1⟩
    go_wp2_with fail
    refine (n1.out _).mono ?_; rintro e w' ⟨rfl, hw⟩; obtain rfl := hw.symm; clear hw
    go_wp2_with fail
    refine (aw.out _).mono ?_; rintro e w3 ⟨rfl, hb3⟩
    have hB3 : Below w.heap.size w w3 := below_s (below_alloc hb1.size hb1) hb3
    go_wp2_with fail
    refine (aw.out _).mono ?_; rintro e w4 ⟨rfl, hb4⟩
    have hB4 : Below w.heap.size w w4 := below_s hB3 hb4
    go_wp2_with fail
    go_ret
    exact ⟨rfl, hB4⟩
  | true =>
    have l1 := Lib.hid (fun w => lawOf_yes b p w hb)
    have n1 := Lib.hid (fun w => new_Q b p w hb)
    by_cases hlen : n ≤ 1000
    · have hwf1 := newQ_wf hb
      replace hb := Lib.hid hb
      replace hops := Lib.hid hops
      go_enter Try.func4, Try.ntmps4
      go_wp2_with fail
      refine (l1.out _).mono ?_; rintro e w1 ⟨rfl, hb1⟩
      go_wp2_with fail
      refine (n1.out _).mono ?_; rintro e w5 ⟨rfl, hQ, hb5⟩
      simp only [World.size_alloc] at hQ
      have hsz := hb1.size
      have hB5 : Below w.heap.size w w5 := below_s (below_alloc hb1.size hb1) hb5
      clear hb5 hb1
      go_wp2_with fail
      refine (aw.out _).mono ?_; rintro e w3 ⟨rfl, hb3⟩
      have hQ := hQ.below hb3
      have hB3 : Below w.heap.size w w3 := below_s hB5 hb3
      clear hb3 hB5
      generalize hqb : w1.heap.size + 1 = qb at hQ
      have hlq : w.heap.size < qb := by omega
      go_wp2_with fail
      go_loopw [45] (fun i wr => ∃ (j : Nat) (q : QS), j ≤ xs.length ∧ i = .int .i64 j ∧ q.wf ∧ Qat wr qb q ∧ Only (· = qb) w3 wr) (fun i _ => xs.length - (intOf i).toNat)
      case atStart => exact ⟨0, ⟨b, p, 0, 0, 0, 0⟩, Nat.zero_le _, rfl, hwf1, hQ, Only.refl _ _⟩
      case round =>
        obtain ⟨j, q, hj, rfl, hq, hQj, hO⟩ := hrel
        clear hQ hwf1
        by_cases hlt : j < xs.length
        · obtain ⟨ob, off, rfl, hcs⟩ := hops.out (by omega)
          have hcj := hcs j hlt
          clear hcs
          generalize xs[j] = z at hcj
          obtain ⟨K1, B1, P1⟩ := z
          obtain ⟨h0, h1, h2⟩ := hcj
          have hob : ob < w.heap.size := block_lt h0
          have hno : ¬ (ob = qb) := by omega
          have x0 : wr.cell? ⟨ob, off + j * 3, none⟩ = some (.int .i64 K1) := hO.cell (keep_b hB3 h0) hno
          have x1 : wr.cell? ⟨ob, off + j * 3 + 1, none⟩ = some (.int .i64 B1) := hO.cell (keep_b hB3 h1) hno
          have x2 : wr.cell? ⟨ob, off + j * 3 + 2, none⟩ = some (.int .i64 P1) := hO.cell (keep_b hB3 h2) hno
          clear h0 h1 h2 hno hob
          by_cases hk : 1 ≤ K1 ∧ K1 ≤ 5
          · cases hok : okS B1 P1 with
            | true =>
              rcases (by omega : K1 = 1 ∨ K1 = 2 ∨ K1 = 3 ∨ K1 = 4 ∨ K1 = 5) with rfl | rfl | rfl | rfl | rfl
              · have l2 := Lib.hid (fun w => lawOf_yes B1 P1 w hok)
                have c1 := fun W (h : Qat W qb q) => reserve_yes qb q B1 P1 W hq hok h
                have hw6 := QS.op_wf (k := 1) hq hok
                change (q.res B1 P1).wf at hw6
                generalize q.resE B1 P1 = E1 at c1
                generalize q.res B1 P1 = q' at c1 hw6
                replace hw6 := Lib.hid hw6
                replace c1 := Lib.hid c1
                clear hq hok
                go_wp2_with fail
                refine (l2.out _).mono ?_; rintro e v1 ⟨rfl, hv1⟩
                have z0 : (v1.alloc (.cells #[.int .i64 B1, .int .i64 P1] 27)).cell? ⟨wr.heap.size, 0, none⟩ = some (.int .i64 1) := keep_alloc (keep_b hv1 (new_cell rfl))
                have hv2 : Below wr.heap.size wr (v1.alloc (.cells #[.int .i64 B1, .int .i64 P1] 27)) := below_alloc (by have := hv1.size; simp at this; omega) (below_s (below_alloc (Nat.le_refl _) (Below.refl _ _)) hv1)
                have hQ5 := hQj.below hv2
                have hO5 : Only (· = qb) w3 (v1.alloc (.cells #[.int .i64 B1, .int .i64 P1] 27)) := hO.trans (Only.of_below2 (bs := (· = qb)) hv2)
                clear hv1 hv2 hQj hO
                go_wp2_with fail
                refine (c1.out _ hQ5).mono ?_; rintro e w6 ⟨rfl, hQ6, ho6⟩
                have hO6 := hO5.trans ho6
                clear hQ5 hO5 ho6
                go_wp2_with fail
                refine (charged_any qb _ _ hQ6).mono ?_; rintro e w' ⟨rfl, hw⟩; obtain rfl := hw.symm; clear hw; go_wp2_with fail
                refine (reserved_any qb _ _ hQ6).mono ?_; rintro e w' ⟨rfl, hw⟩; obtain rfl := hw.symm; clear hw; go_wp2_with fail
                refine (hold_plus hw6.out _).mono ?_; rintro e w' ⟨rfl, hw⟩; obtain rfl := hw.symm; clear hw; go_wp2_with fail
                refine (limit_any qb _ _ hQ6).mono ?_; rintro e w' ⟨rfl, hw⟩; obtain rfl := hw.symm; clear hw; go_wp2_with fail
                refine (hold_fits hw6.out _).mono ?_; rintro e w' ⟨rfl, hw⟩; obtain rfl := hw.symm; clear hw; go_wp2_with fail
                go_round
                case rel => exact ⟨j + 1, _, by omega, by go_num, hw6.out, hQ6, hO6⟩
                case measure => simp [intOf]; omega
              · have l2 := Lib.hid (fun w => lawOf_yes B1 P1 w hok)
                have c1 := fun W (h : Qat W qb q) => commit_yes qb q B1 P1 W hq hok h
                have hw6 := QS.op_wf (k := 2) hq hok
                change (q.com B1 P1).wf at hw6
                generalize q.canE B1 P1 = E1 at c1
                generalize q.com B1 P1 = q' at c1 hw6
                replace hw6 := Lib.hid hw6
                replace c1 := Lib.hid c1
                clear hq hok
                go_wp2_with fail
                refine (l2.out _).mono ?_; rintro e v1 ⟨rfl, hv1⟩
                have z0 : (v1.alloc (.cells #[.int .i64 B1, .int .i64 P1] 27)).cell? ⟨wr.heap.size, 0, none⟩ = some (.int .i64 2) := keep_alloc (keep_b hv1 (new_cell rfl))
                have hv2 : Below wr.heap.size wr (v1.alloc (.cells #[.int .i64 B1, .int .i64 P1] 27)) := below_alloc (by have := hv1.size; simp at this; omega) (below_s (below_alloc (Nat.le_refl _) (Below.refl _ _)) hv1)
                have hQ5 := hQj.below hv2
                have hO5 : Only (· = qb) w3 (v1.alloc (.cells #[.int .i64 B1, .int .i64 P1] 27)) := hO.trans (Only.of_below2 (bs := (· = qb)) hv2)
                clear hv1 hv2 hQj hO
                go_wp2_with fail
                refine (c1.out _ hQ5).mono ?_; rintro e w6 ⟨rfl, hQ6, ho6⟩
                have hO6 := hO5.trans ho6
                clear hQ5 hO5 ho6
                go_wp2_with fail
                refine (charged_any qb _ _ hQ6).mono ?_; rintro e w' ⟨rfl, hw⟩; obtain rfl := hw.symm; clear hw; go_wp2_with fail
                refine (reserved_any qb _ _ hQ6).mono ?_; rintro e w' ⟨rfl, hw⟩; obtain rfl := hw.symm; clear hw; go_wp2_with fail
                refine (hold_plus hw6.out _).mono ?_; rintro e w' ⟨rfl, hw⟩; obtain rfl := hw.symm; clear hw; go_wp2_with fail
                refine (limit_any qb _ _ hQ6).mono ?_; rintro e w' ⟨rfl, hw⟩; obtain rfl := hw.symm; clear hw; go_wp2_with fail
                refine (hold_fits hw6.out _).mono ?_; rintro e w' ⟨rfl, hw⟩; obtain rfl := hw.symm; clear hw; go_wp2_with fail
                go_round
                case rel => exact ⟨j + 1, _, by omega, by go_num, hw6.out, hQ6, hO6⟩
                case measure => simp [intOf]; omega
              · have l2 := Lib.hid (fun w => lawOf_yes B1 P1 w hok)
                have c1 := fun W (h : Qat W qb q) => cancel_yes qb q B1 P1 W hq hok h
                have hw6 := QS.op_wf (k := 3) hq hok
                change (q.can B1 P1).wf at hw6
                generalize q.canE B1 P1 = E1 at c1
                generalize q.can B1 P1 = q' at c1 hw6
                replace hw6 := Lib.hid hw6
                replace c1 := Lib.hid c1
                clear hq hok
                go_wp2_with fail
                refine (l2.out _).mono ?_; rintro e v1 ⟨rfl, hv1⟩
                have z0 : (v1.alloc (.cells #[.int .i64 B1, .int .i64 P1] 27)).cell? ⟨wr.heap.size, 0, none⟩ = some (.int .i64 3) := keep_alloc (keep_b hv1 (new_cell rfl))
                have hv2 : Below wr.heap.size wr (v1.alloc (.cells #[.int .i64 B1, .int .i64 P1] 27)) := below_alloc (by have := hv1.size; simp at this; omega) (below_s (below_alloc (Nat.le_refl _) (Below.refl _ _)) hv1)
                have hQ5 := hQj.below hv2
                have hO5 : Only (· = qb) w3 (v1.alloc (.cells #[.int .i64 B1, .int .i64 P1] 27)) := hO.trans (Only.of_below2 (bs := (· = qb)) hv2)
                clear hv1 hv2 hQj hO
                go_wp2_with fail
                refine (c1.out _ hQ5).mono ?_; rintro e w6 ⟨rfl, hQ6, ho6⟩
                have hO6 := hO5.trans ho6
                clear hQ5 hO5 ho6
                go_wp2_with fail
                refine (charged_any qb _ _ hQ6).mono ?_; rintro e w' ⟨rfl, hw⟩; obtain rfl := hw.symm; clear hw; go_wp2_with fail
                refine (reserved_any qb _ _ hQ6).mono ?_; rintro e w' ⟨rfl, hw⟩; obtain rfl := hw.symm; clear hw; go_wp2_with fail
                refine (hold_plus hw6.out _).mono ?_; rintro e w' ⟨rfl, hw⟩; obtain rfl := hw.symm; clear hw; go_wp2_with fail
                refine (limit_any qb _ _ hQ6).mono ?_; rintro e w' ⟨rfl, hw⟩; obtain rfl := hw.symm; clear hw; go_wp2_with fail
                refine (hold_fits hw6.out _).mono ?_; rintro e w' ⟨rfl, hw⟩; obtain rfl := hw.symm; clear hw; go_wp2_with fail
                go_round
                case rel => exact ⟨j + 1, _, by omega, by go_num, hw6.out, hQ6, hO6⟩
                case measure => simp [intOf]; omega
              · have l2 := Lib.hid (fun w => lawOf_yes B1 P1 w hok)
                have c1 := fun W (h : Qat W qb q) => refund_yes qb q B1 P1 W hq hok h
                have hw6 := QS.op_wf (k := 4) hq hok
                change (q.ref B1 P1).wf at hw6
                generalize q.refE B1 P1 = E1 at c1
                generalize q.ref B1 P1 = q' at c1 hw6
                replace hw6 := Lib.hid hw6
                replace c1 := Lib.hid c1
                clear hq hok
                go_wp2_with fail
                refine (l2.out _).mono ?_; rintro e v1 ⟨rfl, hv1⟩
                have z0 : (v1.alloc (.cells #[.int .i64 B1, .int .i64 P1] 27)).cell? ⟨wr.heap.size, 0, none⟩ = some (.int .i64 4) := keep_alloc (keep_b hv1 (new_cell rfl))
                have hv2 : Below wr.heap.size wr (v1.alloc (.cells #[.int .i64 B1, .int .i64 P1] 27)) := below_alloc (by have := hv1.size; simp at this; omega) (below_s (below_alloc (Nat.le_refl _) (Below.refl _ _)) hv1)
                have hQ5 := hQj.below hv2
                have hO5 : Only (· = qb) w3 (v1.alloc (.cells #[.int .i64 B1, .int .i64 P1] 27)) := hO.trans (Only.of_below2 (bs := (· = qb)) hv2)
                clear hv1 hv2 hQj hO
                go_wp2_with fail
                refine (c1.out _ hQ5).mono ?_; rintro e w6 ⟨rfl, hQ6, ho6⟩
                have hO6 := hO5.trans ho6
                clear hQ5 hO5 ho6
                go_wp2_with fail
                refine (charged_any qb _ _ hQ6).mono ?_; rintro e w' ⟨rfl, hw⟩; obtain rfl := hw.symm; clear hw; go_wp2_with fail
                refine (reserved_any qb _ _ hQ6).mono ?_; rintro e w' ⟨rfl, hw⟩; obtain rfl := hw.symm; clear hw; go_wp2_with fail
                refine (hold_plus hw6.out _).mono ?_; rintro e w' ⟨rfl, hw⟩; obtain rfl := hw.symm; clear hw; go_wp2_with fail
                refine (limit_any qb _ _ hQ6).mono ?_; rintro e w' ⟨rfl, hw⟩; obtain rfl := hw.symm; clear hw; go_wp2_with fail
                refine (hold_fits hw6.out _).mono ?_; rintro e w' ⟨rfl, hw⟩; obtain rfl := hw.symm; clear hw; go_wp2_with fail
                go_round
                case rel => exact ⟨j + 1, _, by omega, by go_num, hw6.out, hQ6, hO6⟩
                case measure => simp [intOf]; omega
              · have l2 := Lib.hid (fun w => lawOf_yes B1 P1 w hok)
                have c1 := fun W (h : Qat W qb q) => resize_yes qb q B1 P1 W hq hok h
                have hw6 := QS.op_wf (k := 5) hq hok
                change (q.siz B1 P1).wf at hw6
                generalize q.sizE B1 P1 = E1 at c1
                generalize q.siz B1 P1 = q' at c1 hw6
                replace hw6 := Lib.hid hw6
                replace c1 := Lib.hid c1
                clear hq hok
                go_wp2_with fail
                refine (l2.out _).mono ?_; rintro e v1 ⟨rfl, hv1⟩
                have z0 : (v1.alloc (.cells #[.int .i64 B1, .int .i64 P1] 27)).cell? ⟨wr.heap.size, 0, none⟩ = some (.int .i64 5) := keep_alloc (keep_b hv1 (new_cell rfl))
                have hv2 : Below wr.heap.size wr (v1.alloc (.cells #[.int .i64 B1, .int .i64 P1] 27)) := below_alloc (by have := hv1.size; simp at this; omega) (below_s (below_alloc (Nat.le_refl _) (Below.refl _ _)) hv1)
                have hQ5 := hQj.below hv2
                have hO5 : Only (· = qb) w3 (v1.alloc (.cells #[.int .i64 B1, .int .i64 P1] 27)) := hO.trans (Only.of_below2 (bs := (· = qb)) hv2)
                clear hv1 hv2 hQj hO
                go_wp2_with fail
                refine (c1.out _ hQ5).mono ?_; rintro e w6 ⟨rfl, hQ6, ho6⟩
                have hO6 := hO5.trans ho6
                clear hQ5 hO5 ho6
                go_wp2_with fail
                refine (charged_any qb _ _ hQ6).mono ?_; rintro e w' ⟨rfl, hw⟩; obtain rfl := hw.symm; clear hw; go_wp2_with fail
                refine (reserved_any qb _ _ hQ6).mono ?_; rintro e w' ⟨rfl, hw⟩; obtain rfl := hw.symm; clear hw; go_wp2_with fail
                refine (hold_plus hw6.out _).mono ?_; rintro e w' ⟨rfl, hw⟩; obtain rfl := hw.symm; clear hw; go_wp2_with fail
                refine (limit_any qb _ _ hQ6).mono ?_; rintro e w' ⟨rfl, hw⟩; obtain rfl := hw.symm; clear hw; go_wp2_with fail
                refine (hold_fits hw6.out _).mono ?_; rintro e w' ⟨rfl, hw⟩; obtain rfl := hw.symm; clear hw; go_wp2_with fail
                go_round
                case rel => exact ⟨j + 1, _, by omega, by go_num, hw6.out, hQ6, hO6⟩
                case measure => simp [intOf]; omega
            | false =>
              rcases (by omega : K1 = 1 ∨ K1 = 2 ∨ K1 = 3 ∨ K1 = 4 ∨ K1 = 5) with rfl | rfl | rfl | rfl | rfl
              · have l2 := Lib.hid (fun w => lawOf_no B1 P1 w hok)
                have c1 := Lib.hid (fun W (h : Qat W qb q) => (bad_any qb q (-1) 0 W (by decide) (by decide) h (ok_not (by omega))).1)
                have hw6 := Lib.hid hq
                clear hq hok
                go_wp2_with fail
                refine (l2.out _).mono ?_; rintro e v1 ⟨rfl, hv1⟩
                have z0 : (v1.alloc (.cells #[.int .i64 0, .int .i64 0] 27)).cell? ⟨wr.heap.size, 0, none⟩ = some (.int .i64 1) := keep_alloc (keep_b hv1 (new_cell rfl))
                have hv2 : Below wr.heap.size wr (v1.alloc (.cells #[.int .i64 0, .int .i64 0] 27)) := below_alloc (by have := hv1.size; simp at this; omega) (below_s (below_alloc (Nat.le_refl _) (Below.refl _ _)) hv1)
                have hQ5 := hQj.below hv2
                have hO5 : Only (· = qb) w3 (v1.alloc (.cells #[.int .i64 0, .int .i64 0] 27)) := hO.trans (Only.of_below2 (bs := (· = qb)) hv2)
                clear hv1 hv2 hQj hO
                go_wp2_with fail
                refine (c1.out _ hQ5).mono ?_; rintro e w6 ⟨rfl, hQ6, ho6⟩
                have hO6 := hO5.trans ho6
                clear hQ5 hO5 ho6
                go_wp2_with fail
                refine (charged_any qb _ _ hQ6).mono ?_; rintro e w' ⟨rfl, hw⟩; obtain rfl := hw.symm; clear hw; go_wp2_with fail
                refine (reserved_any qb _ _ hQ6).mono ?_; rintro e w' ⟨rfl, hw⟩; obtain rfl := hw.symm; clear hw; go_wp2_with fail
                refine (hold_plus hw6.out _).mono ?_; rintro e w' ⟨rfl, hw⟩; obtain rfl := hw.symm; clear hw; go_wp2_with fail
                refine (limit_any qb _ _ hQ6).mono ?_; rintro e w' ⟨rfl, hw⟩; obtain rfl := hw.symm; clear hw; go_wp2_with fail
                refine (hold_fits hw6.out _).mono ?_; rintro e w' ⟨rfl, hw⟩; obtain rfl := hw.symm; clear hw; go_wp2_with fail
                go_round
                case rel => exact ⟨j + 1, _, by omega, by go_num, hw6.out, hQ6, hO6⟩
                case measure => simp [intOf]; omega
              · have l2 := Lib.hid (fun w => lawOf_no B1 P1 w hok)
                have c1 := Lib.hid (fun W (h : Qat W qb q) => (bad_any qb q (-1) 0 W (by decide) (by decide) h (ok_not (by omega))).2.1)
                have hw6 := Lib.hid hq
                clear hq hok
                go_wp2_with fail
                refine (l2.out _).mono ?_; rintro e v1 ⟨rfl, hv1⟩
                have z0 : (v1.alloc (.cells #[.int .i64 0, .int .i64 0] 27)).cell? ⟨wr.heap.size, 0, none⟩ = some (.int .i64 2) := keep_alloc (keep_b hv1 (new_cell rfl))
                have hv2 : Below wr.heap.size wr (v1.alloc (.cells #[.int .i64 0, .int .i64 0] 27)) := below_alloc (by have := hv1.size; simp at this; omega) (below_s (below_alloc (Nat.le_refl _) (Below.refl _ _)) hv1)
                have hQ5 := hQj.below hv2
                have hO5 : Only (· = qb) w3 (v1.alloc (.cells #[.int .i64 0, .int .i64 0] 27)) := hO.trans (Only.of_below2 (bs := (· = qb)) hv2)
                clear hv1 hv2 hQj hO
                go_wp2_with fail
                refine (c1.out _ hQ5).mono ?_; rintro e w6 ⟨rfl, hQ6, ho6⟩
                have hO6 := hO5.trans ho6
                clear hQ5 hO5 ho6
                go_wp2_with fail
                refine (charged_any qb _ _ hQ6).mono ?_; rintro e w' ⟨rfl, hw⟩; obtain rfl := hw.symm; clear hw; go_wp2_with fail
                refine (reserved_any qb _ _ hQ6).mono ?_; rintro e w' ⟨rfl, hw⟩; obtain rfl := hw.symm; clear hw; go_wp2_with fail
                refine (hold_plus hw6.out _).mono ?_; rintro e w' ⟨rfl, hw⟩; obtain rfl := hw.symm; clear hw; go_wp2_with fail
                refine (limit_any qb _ _ hQ6).mono ?_; rintro e w' ⟨rfl, hw⟩; obtain rfl := hw.symm; clear hw; go_wp2_with fail
                refine (hold_fits hw6.out _).mono ?_; rintro e w' ⟨rfl, hw⟩; obtain rfl := hw.symm; clear hw; go_wp2_with fail
                go_round
                case rel => exact ⟨j + 1, _, by omega, by go_num, hw6.out, hQ6, hO6⟩
                case measure => simp [intOf]; omega
              · have l2 := Lib.hid (fun w => lawOf_no B1 P1 w hok)
                have c1 := Lib.hid (fun W (h : Qat W qb q) => (bad_any qb q (-1) 0 W (by decide) (by decide) h (ok_not (by omega))).2.2.1)
                have hw6 := Lib.hid hq
                clear hq hok
                go_wp2_with fail
                refine (l2.out _).mono ?_; rintro e v1 ⟨rfl, hv1⟩
                have z0 : (v1.alloc (.cells #[.int .i64 0, .int .i64 0] 27)).cell? ⟨wr.heap.size, 0, none⟩ = some (.int .i64 3) := keep_alloc (keep_b hv1 (new_cell rfl))
                have hv2 : Below wr.heap.size wr (v1.alloc (.cells #[.int .i64 0, .int .i64 0] 27)) := below_alloc (by have := hv1.size; simp at this; omega) (below_s (below_alloc (Nat.le_refl _) (Below.refl _ _)) hv1)
                have hQ5 := hQj.below hv2
                have hO5 : Only (· = qb) w3 (v1.alloc (.cells #[.int .i64 0, .int .i64 0] 27)) := hO.trans (Only.of_below2 (bs := (· = qb)) hv2)
                clear hv1 hv2 hQj hO
                go_wp2_with fail
                refine (c1.out _ hQ5).mono ?_; rintro e w6 ⟨rfl, hQ6, ho6⟩
                have hO6 := hO5.trans ho6
                clear hQ5 hO5 ho6
                go_wp2_with fail
                refine (charged_any qb _ _ hQ6).mono ?_; rintro e w' ⟨rfl, hw⟩; obtain rfl := hw.symm; clear hw; go_wp2_with fail
                refine (reserved_any qb _ _ hQ6).mono ?_; rintro e w' ⟨rfl, hw⟩; obtain rfl := hw.symm; clear hw; go_wp2_with fail
                refine (hold_plus hw6.out _).mono ?_; rintro e w' ⟨rfl, hw⟩; obtain rfl := hw.symm; clear hw; go_wp2_with fail
                refine (limit_any qb _ _ hQ6).mono ?_; rintro e w' ⟨rfl, hw⟩; obtain rfl := hw.symm; clear hw; go_wp2_with fail
                refine (hold_fits hw6.out _).mono ?_; rintro e w' ⟨rfl, hw⟩; obtain rfl := hw.symm; clear hw; go_wp2_with fail
                go_round
                case rel => exact ⟨j + 1, _, by omega, by go_num, hw6.out, hQ6, hO6⟩
                case measure => simp [intOf]; omega
              · have l2 := Lib.hid (fun w => lawOf_no B1 P1 w hok)
                have c1 := Lib.hid (fun W (h : Qat W qb q) => (bad_any qb q (-1) 0 W (by decide) (by decide) h (ok_not (by omega))).2.2.2.1)
                have hw6 := Lib.hid hq
                clear hq hok
                go_wp2_with fail
                refine (l2.out _).mono ?_; rintro e v1 ⟨rfl, hv1⟩
                have z0 : (v1.alloc (.cells #[.int .i64 0, .int .i64 0] 27)).cell? ⟨wr.heap.size, 0, none⟩ = some (.int .i64 4) := keep_alloc (keep_b hv1 (new_cell rfl))
                have hv2 : Below wr.heap.size wr (v1.alloc (.cells #[.int .i64 0, .int .i64 0] 27)) := below_alloc (by have := hv1.size; simp at this; omega) (below_s (below_alloc (Nat.le_refl _) (Below.refl _ _)) hv1)
                have hQ5 := hQj.below hv2
                have hO5 : Only (· = qb) w3 (v1.alloc (.cells #[.int .i64 0, .int .i64 0] 27)) := hO.trans (Only.of_below2 (bs := (· = qb)) hv2)
                clear hv1 hv2 hQj hO
                go_wp2_with fail
                refine (c1.out _ hQ5).mono ?_; rintro e w6 ⟨rfl, hQ6, ho6⟩
                have hO6 := hO5.trans ho6
                clear hQ5 hO5 ho6
                go_wp2_with fail
                refine (charged_any qb _ _ hQ6).mono ?_; rintro e w' ⟨rfl, hw⟩; obtain rfl := hw.symm; clear hw; go_wp2_with fail
                refine (reserved_any qb _ _ hQ6).mono ?_; rintro e w' ⟨rfl, hw⟩; obtain rfl := hw.symm; clear hw; go_wp2_with fail
                refine (hold_plus hw6.out _).mono ?_; rintro e w' ⟨rfl, hw⟩; obtain rfl := hw.symm; clear hw; go_wp2_with fail
                refine (limit_any qb _ _ hQ6).mono ?_; rintro e w' ⟨rfl, hw⟩; obtain rfl := hw.symm; clear hw; go_wp2_with fail
                refine (hold_fits hw6.out _).mono ?_; rintro e w' ⟨rfl, hw⟩; obtain rfl := hw.symm; clear hw; go_wp2_with fail
                go_round
                case rel => exact ⟨j + 1, _, by omega, by go_num, hw6.out, hQ6, hO6⟩
                case measure => simp [intOf]; omega
              · have l2 := Lib.hid (fun w => lawOf_no B1 P1 w hok)
                have c1 := Lib.hid (fun W (h : Qat W qb q) => (bad_any qb q (-1) 0 W (by decide) (by decide) h (ok_not (by omega))).2.2.2.2)
                have hw6 := Lib.hid hq
                clear hq hok
                go_wp2_with fail
                refine (l2.out _).mono ?_; rintro e v1 ⟨rfl, hv1⟩
                have z0 : (v1.alloc (.cells #[.int .i64 0, .int .i64 0] 27)).cell? ⟨wr.heap.size, 0, none⟩ = some (.int .i64 5) := keep_alloc (keep_b hv1 (new_cell rfl))
                have hv2 : Below wr.heap.size wr (v1.alloc (.cells #[.int .i64 0, .int .i64 0] 27)) := below_alloc (by have := hv1.size; simp at this; omega) (below_s (below_alloc (Nat.le_refl _) (Below.refl _ _)) hv1)
                have hQ5 := hQj.below hv2
                have hO5 : Only (· = qb) w3 (v1.alloc (.cells #[.int .i64 0, .int .i64 0] 27)) := hO.trans (Only.of_below2 (bs := (· = qb)) hv2)
                clear hv1 hv2 hQj hO
                go_wp2_with fail
                refine (c1.out _ hQ5).mono ?_; rintro e w6 ⟨rfl, hQ6, ho6⟩
                have hO6 := hO5.trans ho6
                clear hQ5 hO5 ho6
                go_wp2_with fail
                refine (charged_any qb _ _ hQ6).mono ?_; rintro e w' ⟨rfl, hw⟩; obtain rfl := hw.symm; clear hw; go_wp2_with fail
                refine (reserved_any qb _ _ hQ6).mono ?_; rintro e w' ⟨rfl, hw⟩; obtain rfl := hw.symm; clear hw; go_wp2_with fail
                refine (hold_plus hw6.out _).mono ?_; rintro e w' ⟨rfl, hw⟩; obtain rfl := hw.symm; clear hw; go_wp2_with fail
                refine (limit_any qb _ _ hQ6).mono ?_; rintro e w' ⟨rfl, hw⟩; obtain rfl := hw.symm; clear hw; go_wp2_with fail
                refine (hold_fits hw6.out _).mono ?_; rintro e w' ⟨rfl, hw⟩; obtain rfl := hw.symm; clear hw; go_wp2_with fail
                go_round
                case rel => exact ⟨j + 1, _, by omega, by go_num, hw6.out, hQ6, hO6⟩
                case measure => simp [intOf]; omega
          · have k1 : K1 ≠ 1 := by omega
            have k2 : K1 ≠ 2 := by omega
            have k3 : K1 ≠ 3 := by omega
            have k4 : K1 ≠ 4 := by omega
            have k5 : K1 ≠ 5 := by omega
            clear hk
            cases hok : okS B1 P1 with
            | true =>
              have l2 := Lib.hid (fun w => lawOf_yes B1 P1 w hok)
              have hw6 := Lib.hid hq
              clear hq hok
              go_wp2_with fail
              refine (l2.out _).mono ?_; rintro e v1 ⟨rfl, hv1⟩
              have z0 : (v1.alloc (.cells #[.int .i64 B1, .int .i64 P1] 27)).cell? ⟨wr.heap.size, 0, none⟩ = some (.int .i64 K1) := keep_alloc (keep_b hv1 (new_cell rfl))
              have hv2 : Below wr.heap.size wr (v1.alloc (.cells #[.int .i64 B1, .int .i64 P1] 27)) := below_alloc (by have := hv1.size; simp at this; omega) (below_s (below_alloc (Nat.le_refl _) (Below.refl _ _)) hv1)
              have hQ5 := hQj.below hv2
              have hO5 : Only (· = qb) w3 (v1.alloc (.cells #[.int .i64 B1, .int .i64 P1] 27)) := hO.trans (Only.of_below2 (bs := (· = qb)) hv2)
              clear hv1 hv2 hQj hO
              have hQ6 := hQ5
              have hO6 := hO5
              clear hQ5 hO5
              go_wp2_with fail
              refine (charged_any qb _ _ hQ6).mono ?_; rintro e w' ⟨rfl, hw⟩; obtain rfl := hw.symm; clear hw; go_wp2_with fail
              refine (reserved_any qb _ _ hQ6).mono ?_; rintro e w' ⟨rfl, hw⟩; obtain rfl := hw.symm; clear hw; go_wp2_with fail
              refine (hold_plus hw6.out _).mono ?_; rintro e w' ⟨rfl, hw⟩; obtain rfl := hw.symm; clear hw; go_wp2_with fail
              refine (limit_any qb _ _ hQ6).mono ?_; rintro e w' ⟨rfl, hw⟩; obtain rfl := hw.symm; clear hw; go_wp2_with fail
              refine (hold_fits hw6.out _).mono ?_; rintro e w' ⟨rfl, hw⟩; obtain rfl := hw.symm; clear hw; go_wp2_with fail
              go_round
              case rel => exact ⟨j + 1, _, by omega, by go_num, hw6.out, hQ6, hO6⟩
              case measure => simp [intOf]; omega
            | false =>
              have l2 := Lib.hid (fun w => lawOf_no B1 P1 w hok)
              have hw6 := Lib.hid hq
              clear hq hok
              go_wp2_with fail
              refine (l2.out _).mono ?_; rintro e v1 ⟨rfl, hv1⟩
              have z0 : (v1.alloc (.cells #[.int .i64 0, .int .i64 0] 27)).cell? ⟨wr.heap.size, 0, none⟩ = some (.int .i64 K1) := keep_alloc (keep_b hv1 (new_cell rfl))
              have hv2 : Below wr.heap.size wr (v1.alloc (.cells #[.int .i64 0, .int .i64 0] 27)) := below_alloc (by have := hv1.size; simp at this; omega) (below_s (below_alloc (Nat.le_refl _) (Below.refl _ _)) hv1)
              have hQ5 := hQj.below hv2
              have hO5 : Only (· = qb) w3 (v1.alloc (.cells #[.int .i64 0, .int .i64 0] 27)) := hO.trans (Only.of_below2 (bs := (· = qb)) hv2)
              clear hv1 hv2 hQj hO
              have hQ6 := hQ5
              have hO6 := hO5
              clear hQ5 hO5
              go_wp2_with fail
              refine (charged_any qb _ _ hQ6).mono ?_; rintro e w' ⟨rfl, hw⟩; obtain rfl := hw.symm; clear hw; go_wp2_with fail
              refine (reserved_any qb _ _ hQ6).mono ?_; rintro e w' ⟨rfl, hw⟩; obtain rfl := hw.symm; clear hw; go_wp2_with fail
              refine (hold_plus hw6.out _).mono ?_; rintro e w' ⟨rfl, hw⟩; obtain rfl := hw.symm; clear hw; go_wp2_with fail
              refine (limit_any qb _ _ hQ6).mono ?_; rintro e w' ⟨rfl, hw⟩; obtain rfl := hw.symm; clear hw; go_wp2_with fail
              refine (hold_fits hw6.out _).mono ?_; rintro e w' ⟨rfl, hw⟩; obtain rfl := hw.symm; clear hw; go_wp2_with fail
              go_round
              case rel => exact ⟨j + 1, _, by omega, by go_num, hw6.out, hQ6, hO6⟩
              case measure => simp [intOf]; omega
        · obtain rfl : j = xs.length := by omega
          have hB4 : Below w.heap.size w wr := below_only hB3 hO (by omega)
          go_wp2_with fail
          go_ret
          exact ⟨rfl, hB4⟩
    · replace hlen : 1000 < n := by omega
      go_enter Try.func4, Try.ntmps4
      go_wp2_with fail
      refine (l1.out _).mono ?_; rintro e w1 ⟨rfl, hb1⟩
      go_wp2_with fail
      refine (n1.out _).mono ?_; rintro e w5 ⟨rfl, hQ, hb5⟩
      simp only [World.size_alloc] at hQ
      have hsz := hb1.size
      have hB5 : Below w.heap.size w w5 := below_s (below_alloc hb1.size hb1) hb5
      clear hb5 hb1
      go_wp2_with fail
      refine (aw.out _).mono ?_; rintro e w3 ⟨rfl, hb3⟩
      have hQ := hQ.below hb3
      have hB3 : Below w.heap.size w w3 := below_s hB5 hb3
      clear hb3 hB5
      go_wp2_with fail
      refine (aw.out _).mono ?_; rintro e w4 ⟨rfl, hb4⟩
      have hB4 : Below w.heap.size w w4 := below_s hB3 hb4
      go_wp2_with fail
      go_ret
      exact ⟨rfl, hB4⟩

end Go.Proofs.Ytmgcaljaaemoaaa
