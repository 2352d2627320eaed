/- QuotaAll: the walk. -/
import Derived.Test.YtmgcaljaaemoaaaQuoW
import Derived.Test.YtmgcaljaaemoaaaOpen6
namespace Go.Proofs.Ytmgcaljaaemoaaa
open Go.RowKit Flt
set_option linter.unusedVariables false

theorem eq_sumT (a b c d : Int) (w : World) : (Op.equalIn 10000 27 (.agg #[.int .i64 a, .int .i64 b]) (.agg #[.int .i64 c, .int .i64 d])).run Try.prog w = .ok (decide (a = c ∧ b = d)) w := by
  have u3 := Try.underlying3
  have a3 := Try.isAgg3
  have z3 := Try.sizeOf3
  have hS : Try.prog.underlying 27 = some (.struct (Try.prog.fieldsOf 27)) := by kernel_rfl
  have hp : Try.prog.stoodInHeld 27 = false := by kernel_rfl
  rw [show (10000 : Nat) = 9999 + 1 from rfl, run_equalIn_agg w 9999 27 _ _ hS hp]
  simp only [Program.fieldsOf, Try.underlying27]
  go_simp
  by_cases h1 : a = c <;> by_cases h2 : b = d <;> simp [h1, h2]

theorem all_res1 {b p : Int} : QS.resE ⟨b, p, 0, 0, 0, 0⟩ b p = 0 ∧ QS.res ⟨b, p, 0, 0, 0, 0⟩ b p = ⟨b, p, 0, 0, b, p⟩ := by
  constructor
  · unfold QS.resE; simp
  · unfold QS.res; simp
theorem all_com {b p : Int} : QS.canE ⟨b, p, 0, 0, b, p⟩ b p = 0 ∧ QS.com ⟨b, p, 0, 0, b, p⟩ b p = ⟨b, p, b, p, 0, 0⟩ := by
  constructor
  · unfold QS.canE; simp
  · unfold QS.com; simp
theorem all_ref {b p : Int} : QS.refE ⟨b, p, b, p, 0, 0⟩ b p = 0 ∧ QS.ref ⟨b, p, b, p, 0, 0⟩ b p = ⟨b, p, 0, 0, 0, 0⟩ := by
  constructor
  · unfold QS.refE; simp
  · unfold QS.ref; simp

set_option maxHeartbeats 1000000 in
theorem quotaAll_walk (b p : Int) (z : O6) (w : World) (_g : True) :
    Calls Try.prog 3 #[.int .i64 b, .int .i64 p, z.v] w fun e w' => e = .returned (.bool true) ∧ Below w.heap.size w w' := by
  obtain ⟨K, B, P⟩ := z
  unfold O6.v
  simp only
  have aw := Lib.hid (fun w => awake6 w)
  cases hb : okS b p with
  | false =>
    have l1 := Lib.hid (fun w => lawOf_no b p w hb)
    have n1 := Lib.hid (fun w => new_no (-1) 0 w (by decide) (by decide) (ok_not (by omega)))
    cases hs : okS B P with
    | false =>
      have l2 := Lib.hid (fun w => lawOf_no B P w hs)
      go_enter Try.func3, Try.ntmps3
      go_wp2_with fail
      refine (l1.out _).mono ?_; rintro e w1 ⟨rfl, hb1⟩
      have y1 : (w1.alloc (.cells #[.int .i64 0, .int .i64 0] 27)).cell? ⟨w.heap.size, 1, none⟩ = some (.int .i64 B) := keep_alloc (keep_b hb1 (new_cell rfl))
      have y2 : (w1.alloc (.cells #[.int .i64 0, .int .i64 0] 27)).cell? ⟨w.heap.size, 2, none⟩ = some (.int .i64 P) := keep_alloc (keep_b hb1 (new_cell rfl))
      have hB1 : Below w.heap.size w w1 := below_s (below_alloc (Nat.le_refl _) (Below.refl _ _)) hb1
      clear hb1
      go_wp2_with fail
      refine (l2.out _).mono ?_; rintro e w2 ⟨rfl, hb2⟩
      have hB2 : Below w.heap.size w w2 := below_s (below_alloc hB1.size hB1) hb2
      clear hb2 y1 y2
      go_wp2_with fail
      refine (n1.out _).mono ?_; rintro e w' ⟨rfl, hw⟩; obtain rfl := hw.symm; clear hw
      go_wp2_with fail
      refine (aw.out _).mono ?_; rintro e w3 ⟨rfl, hb3⟩
      have hB3 : Below w.heap.size w w3 := below_s (below_alloc hB2.size hB2) hb3
      go_wp2_with fail
      refine (aw.out _).mono ?_; rintro e w4 ⟨rfl, hb4⟩
      have hB4 : Below w.heap.size w w4 := below_s hB3 hb4
      go_wp2_with fail
      go_ret
      exact ⟨rfl, hB4⟩
    | true =>
      have l2 := Lib.hid (fun w => lawOf_yes B P w hs)
      go_enter Try.func3, Try.ntmps3
      go_wp2_with fail
      refine (l1.out _).mono ?_; rintro e w1 ⟨rfl, hb1⟩
      have y1 : (w1.alloc (.cells #[.int .i64 0, .int .i64 0] 27)).cell? ⟨w.heap.size, 1, none⟩ = some (.int .i64 B) := keep_alloc (keep_b hb1 (new_cell rfl))
      have y2 : (w1.alloc (.cells #[.int .i64 0, .int .i64 0] 27)).cell? ⟨w.heap.size, 2, none⟩ = some (.int .i64 P) := keep_alloc (keep_b hb1 (new_cell rfl))
      have hB1 : Below w.heap.size w w1 := below_s (below_alloc (Nat.le_refl _) (Below.refl _ _)) hb1
      clear hb1
      go_wp2_with fail
      refine (l2.out _).mono ?_; rintro e w2 ⟨rfl, hb2⟩
      have hB2 : Below w.heap.size w w2 := below_s (below_alloc hB1.size hB1) hb2
      clear hb2 y1 y2
      go_wp2_with fail
      refine (n1.out _).mono ?_; rintro e w' ⟨rfl, hw⟩; obtain rfl := hw.symm; clear hw
      go_wp2_with fail
      refine (aw.out _).mono ?_; rintro e w3 ⟨rfl, hb3⟩
      have hB3 : Below w.heap.size w w3 := below_s (below_alloc hB2.size hB2) hb3
      go_wp2_with fail
      refine (aw.out _).mono ?_; rintro e w4 ⟨rfl, hb4⟩
      have hB4 : Below w.heap.size w w4 := below_s hB3 hb4
      go_wp2_with fail
      go_ret
      exact ⟨rfl, hB4⟩
  | true =>
    have l1 := Lib.hid (fun w => lawOf_yes b p w hb)
    have n1 := Lib.hid (fun w => new_Q b p w hb)
    cases hs : okS B P with
    | false =>
      have l2 := Lib.hid (fun w => lawOf_no B P w hs)
      go_enter Try.func3, Try.ntmps3
      go_wp2_with fail
      refine (l1.out _).mono ?_; rintro e w1 ⟨rfl, hb1⟩
      have y1 : (w1.alloc (.cells #[.int .i64 b, .int .i64 p] 27)).cell? ⟨w.heap.size, 1, none⟩ = some (.int .i64 B) := keep_alloc (keep_b hb1 (new_cell rfl))
      have y2 : (w1.alloc (.cells #[.int .i64 b, .int .i64 p] 27)).cell? ⟨w.heap.size, 2, none⟩ = some (.int .i64 P) := keep_alloc (keep_b hb1 (new_cell rfl))
      have hB1 : Below w.heap.size w w1 := below_s (below_alloc (Nat.le_refl _) (Below.refl _ _)) hb1
      clear hb1
      go_wp2_with fail
      refine (l2.out _).mono ?_; rintro e w2 ⟨rfl, hb2⟩
      have hB2 : Below w.heap.size w w2 := below_s (below_alloc hB1.size hB1) hb2
      clear hb2 y1 y2
      go_wp2_with fail
      refine (n1.out _).mono ?_; rintro e w5 ⟨rfl, hQ, hb5⟩
      have hB5 : Below w.heap.size w w5 := below_s (below_alloc hB2.size hB2) hb5
      go_wp2_with fail
      refine (aw.out _).mono ?_; rintro e w3 ⟨rfl, hb3⟩
      have hB3 : Below w.heap.size w w3 := below_s hB5 hb3
      go_wp2_with fail
      refine (aw.out _).mono ?_; rintro e w4 ⟨rfl, hb4⟩
      have hB4 : Below w.heap.size w w4 := below_s hB3 hb4
      go_wp2_with fail
      go_ret
      exact ⟨rfl, hB4⟩
    | true =>
      have l2 := Lib.hid (fun w => lawOf_yes B P w hs)
      have kb := okS_iff.1 hb
      have ks := okS_iff.1 hs
      have wf1 : QS.wf ⟨b, p, 0, 0, 0, 0⟩ := newQ_wf hb
      have wf2 : QS.wf ⟨b, p, 0, 0, b, p⟩ := by unfold QS.wf; simp only; omega
      have wf3 : QS.wf ⟨b, p, b, p, 0, 0⟩ := by unfold QS.wf; simp only; omega
      have r1 : Hid (∀ q (W : World), Qat W q ⟨b, p, 0, 0, 0, 0⟩ → Calls Try.prog 10 #[.pointer (some ⟨q, 0, none⟩), .complex .f64 (F b) (F p)] W (QPost W q 0 ⟨b, p, 0, 0, b, p⟩)) := Lib.hid (fun q W h => by
        have := reserve_yes q _ b p W wf1 hb h
        rwa [all_res1.1, all_res1.2] at this)
      have c1 : Hid (∀ q (W : World), Qat W q ⟨b, p, 0, 0, b, p⟩ → Calls Try.prog 11 #[.pointer (some ⟨q, 0, none⟩), .complex .f64 (F b) (F p)] W (QPost W q 0 ⟨b, p, b, p, 0, 0⟩)) := Lib.hid (fun q W h => by
        have := commit_yes q _ b p W wf2 hb h
        rwa [all_com.1, all_com.2] at this)
      have f1 : Hid (∀ q (W : World), Qat W q ⟨b, p, b, p, 0, 0⟩ → Calls Try.prog 14 #[.pointer (some ⟨q, 0, none⟩), .complex .f64 (F b) (F p)] W (QPost W q 0 ⟨b, p, 0, 0, 0, 0⟩)) := Lib.hid (fun q W h => by
        have := refund_yes q _ b p W wf3 hb h
        rwa [all_ref.1, all_ref.2] at this)
      have g1 : Hid (∀ q (W : World), Qat W q ⟨b, p, b, p, 0, 0⟩ → Calls Try.prog 12 #[.pointer (some ⟨q, 0, none⟩)] W fun e w' => e = .returned (.complex .f64 (F b) (F p)) ∧ w' = W) := Lib.hid (fun q W h => charged_any q _ W h)
      have g2 : Hid (∀ q (W : World), Qat W q ⟨b, p, b, p, 0, 0⟩ → Calls Try.prog 13 #[.pointer (some ⟨q, 0, none⟩)] W fun e w' => e = .returned (.complex .f64 (F 0) (F 0)) ∧ w' = W) := Lib.hid (fun q W h => reserved_any q _ W h)
      have g3 : Hid (∀ q (W : World), Qat W q ⟨b, p, 0, 0, 0, 0⟩ → Calls Try.prog 12 #[.pointer (some ⟨q, 0, none⟩)] W fun e w' => e = .returned (.complex .f64 (F 0) (F 0)) ∧ w' = W) := Lib.hid (fun q W h => charged_any q _ W h)
      have he := eql_self hb
      have he0 := eql_00
      have hwf2 := Lib.hid wf2
      have hbb := Lib.hid hb
      have hss := Lib.hid hs
      by_cases hz : B = 0 ∧ P = 0
      · obtain ⟨rfl, rfl⟩ := hz
        have s1 : Hid (∀ q (W : World), Qat W q ⟨b, p, 0, 0, b, p⟩ → Calls Try.prog 10 #[.pointer (some ⟨q, 0, none⟩), .complex .f64 (F 0) (F 0)] W (QPost W q 0 ⟨b, p, 0, 0, b, p⟩)) := Lib.hid (fun q W h => by
          have := reserve_yes q _ 0 0 W wf2 hs h
          rwa [show QS.resE ⟨b, p, 0, 0, b, p⟩ 0 0 = 0 by unfold QS.resE; simp, show QS.res ⟨b, p, 0, 0, b, p⟩ 0 0 = ⟨b, p, 0, 0, b, p⟩ by unfold QS.res; simp] at this)
        clear wf1 wf2 wf3 kb ks hb hs
        go_enter Try.func3, Try.ntmps3
        go_wp2_with fail
        refine (l1.out _).mono ?_; rintro e w1 ⟨rfl, hb1⟩
        have y1 : (w1.alloc (.cells #[.int .i64 b, .int .i64 p] 27)).cell? ⟨w.heap.size, 1, none⟩ = some (.int .i64 0) := keep_alloc (keep_b hb1 (new_cell rfl))
        have y2 : (w1.alloc (.cells #[.int .i64 b, .int .i64 p] 27)).cell? ⟨w.heap.size, 2, none⟩ = some (.int .i64 0) := keep_alloc (keep_b hb1 (new_cell rfl))
        have hB1 : Below w.heap.size w w1 := below_s (below_alloc (Nat.le_refl _) (Below.refl _ _)) hb1
        clear hb1
        go_wp2_with fail
        refine (l2.out _).mono ?_; rintro e w2 ⟨rfl, hb2⟩
        have hB2 : Below w.heap.size w w2 := below_s (below_alloc hB1.size hB1) hb2
        clear hb2 y1 y2
        go_wp2_with fail
        refine (n1.out _).mono ?_; rintro e w5 ⟨rfl, hQ, hb5⟩
        have t0 : w5.cell? ⟨w2.heap.size, 0, none⟩ = some (.int .i64 0) := keep_b hb5 (new_cell rfl)
        have t1 : w5.cell? ⟨w2.heap.size, 1, none⟩ = some (.int .i64 0) := keep_b hb5 (new_cell rfl)
        have hB5 : Below w.heap.size w w5 := below_s (below_alloc hB2.size hB2) hb5
        have hsz := hB2.size
        simp only [World.size_alloc] at hQ
        have hne : ¬ (w2.heap.size = w2.heap.size + 1) := by omega
        clear hb5 hB2 hB1
        go_wp2_with fail
        refine (aw.out _).mono ?_; rintro e w3 ⟨rfl, hb3⟩
        have t0 := keep_b hb3 t0
        have t1 := keep_b hb3 t1
        have hQ := hQ.below hb3
        have hB3 : Below w.heap.size w w3 := below_s hB5 hb3
        have hO : Only (· = w2.heap.size + 1) w w3 := Only.of_below2 hB3
        clear hb3 hB3 hB5
        go_wp2_with fail
        refine (r1.out _ _ hQ).mono ?_; rintro e W1 ⟨rfl, hQ1, ho1⟩
        have t0 := ho1.cell t0 hne
        have t1 := ho1.cell t1 hne
        have hO := hO.trans ho1
        clear hQ ho1
        have hQ := hQ1
        clear hQ1
        go_wp2_with fail
        refine (s1.out _ _ hQ).mono ?_; rintro e W1 ⟨rfl, hQ1, ho1⟩
        have t0 := ho1.cell t0 hne
        have t1 := ho1.cell t1 hne
        have hO := hO.trans ho1
        clear hQ ho1
        have hQ := hQ1
        clear hQ1
        go_wp2_with fail
        refine (c1.out _ _ hQ).mono ?_; rintro e W1 ⟨rfl, hQ1, ho1⟩
        have t0 := ho1.cell t0 hne
        have t1 := ho1.cell t1 hne
        have hO := hO.trans ho1
        clear hQ ho1
        have hQ := hQ1
        clear hQ1
        go_wp2_with fail
        refine (g1.out _ _ hQ).mono ?_; rintro e w' ⟨rfl, hw⟩; obtain rfl := hw.symm; clear hw
        go_wp2_with fail
        refine (g2.out _ _ hQ).mono ?_; rintro e w' ⟨rfl, hw⟩; obtain rfl := hw.symm; clear hw
        go_wp2_with fail
        refine (f1.out _ _ hQ).mono ?_; rintro e W1 ⟨rfl, hQ1, ho1⟩
        have t0 := ho1.cell t0 hne
        have t1 := ho1.cell t1 hne
        have hO := hO.trans ho1
        clear hQ ho1
        have hQ := hQ1
        clear hQ1
        go_wp2_with fail
        refine (g3.out _ _ hQ).mono ?_; rintro e w' ⟨rfl, hw⟩; obtain rfl := hw.symm; clear hw
        go_wp2_with fail
        go_ret
        exact ⟨rfl, hO.below (Nat.le_refl _) (fun k hk he => by omega)⟩
      · have s1 : Hid (∀ q (W : World), Qat W q ⟨b, p, 0, 0, b, p⟩ → Calls Try.prog 10 #[.pointer (some ⟨q, 0, none⟩), .complex .f64 (F B) (F P)] W (QPost W q 3 ⟨b, p, 0, 0, b, p⟩)) := Lib.hid (fun q W h => by
          have := reserve_yes q _ B P W wf2 hs h
          have hn : ¬ ((0 : Int) + b + B ≤ b ∧ (0 : Int) + p + P ≤ p) := by omega
          rwa [show QS.resE ⟨b, p, 0, 0, b, p⟩ B P = 3 by unfold QS.resE; exact if_neg hn, show QS.res ⟨b, p, 0, 0, b, p⟩ B P = ⟨b, p, 0, 0, b, p⟩ by unfold QS.res; exact if_neg hn] at this)
        have heq : ∀ w, (Op.equalIn 10000 27 (.agg #[.int .i64 B, .int .i64 P]) (.agg #[.int .i64 0, .int .i64 0])).run Try.prog w = .ok false w := fun w => by rw [eq_sumT, decide_eq_false hz]
        clear hz
        clear wf1 wf2 wf3 kb ks hb hs
        go_enter Try.func3, Try.ntmps3
        go_wp2_with fail
        refine (l1.out _).mono ?_; rintro e w1 ⟨rfl, hb1⟩
        have y1 : (w1.alloc (.cells #[.int .i64 b, .int .i64 p] 27)).cell? ⟨w.heap.size, 1, none⟩ = some (.int .i64 B) := keep_alloc (keep_b hb1 (new_cell rfl))
        have y2 : (w1.alloc (.cells #[.int .i64 b, .int .i64 p] 27)).cell? ⟨w.heap.size, 2, none⟩ = some (.int .i64 P) := keep_alloc (keep_b hb1 (new_cell rfl))
        have hB1 : Below w.heap.size w w1 := below_s (below_alloc (Nat.le_refl _) (Below.refl _ _)) hb1
        clear hb1
        go_wp2_with fail
        refine (l2.out _).mono ?_; rintro e w2 ⟨rfl, hb2⟩
        have hB2 : Below w.heap.size w w2 := below_s (below_alloc hB1.size hB1) hb2
        clear hb2 y1 y2
        go_wp2_with fail
        refine (n1.out _).mono ?_; rintro e w5 ⟨rfl, hQ, hb5⟩
        have t0 : w5.cell? ⟨w2.heap.size, 0, none⟩ = some (.int .i64 B) := keep_b hb5 (new_cell rfl)
        have t1 : w5.cell? ⟨w2.heap.size, 1, none⟩ = some (.int .i64 P) := keep_b hb5 (new_cell rfl)
        have hB5 : Below w.heap.size w w5 := below_s (below_alloc hB2.size hB2) hb5
        have hsz := hB2.size
        simp only [World.size_alloc] at hQ
        have hne : ¬ (w2.heap.size = w2.heap.size + 1) := by omega
        clear hb5 hB2 hB1
        go_wp2_with fail
        refine (aw.out _).mono ?_; rintro e w3 ⟨rfl, hb3⟩
        have t0 := keep_b hb3 t0
        have t1 := keep_b hb3 t1
        have hQ := hQ.below hb3
        have hB3 : Below w.heap.size w w3 := below_s hB5 hb3
        have hO : Only (· = w2.heap.size + 1) w w3 := Only.of_below2 hB3
        clear hb3 hB3 hB5
        go_wp2_with fail
        refine (r1.out _ _ hQ).mono ?_; rintro e W1 ⟨rfl, hQ1, ho1⟩
        have t0 := ho1.cell t0 hne
        have t1 := ho1.cell t1 hne
        have hO := hO.trans ho1
        clear hQ ho1
        have hQ := hQ1
        clear hQ1
        go_wp2_with fail
        refine (s1.out _ _ hQ).mono ?_; rintro e W1 ⟨rfl, hQ1, ho1⟩
        have t0 := ho1.cell t0 hne
        have t1 := ho1.cell t1 hne
        have hO := hO.trans ho1
        clear hQ ho1
        have hQ := hQ1
        clear hQ1
        go_wp2_with fail
        refine (s1.out _ _ hQ).mono ?_; rintro e W1 ⟨rfl, hQ1, ho1⟩
        have t0 := ho1.cell t0 hne
        have t1 := ho1.cell t1 hne
        have hO := hO.trans ho1
        clear hQ ho1
        have hQ := hQ1
        clear hQ1
        go_wp2_with fail
        refine (c1.out _ _ hQ).mono ?_; rintro e W1 ⟨rfl, hQ1, ho1⟩
        have t0 := ho1.cell t0 hne
        have t1 := ho1.cell t1 hne
        have hO := hO.trans ho1
        clear hQ ho1
        have hQ := hQ1
        clear hQ1
        go_wp2_with fail
        refine (g1.out _ _ hQ).mono ?_; rintro e w' ⟨rfl, hw⟩; obtain rfl := hw.symm; clear hw
        go_wp2_with fail
        refine (g2.out _ _ hQ).mono ?_; rintro e w' ⟨rfl, hw⟩; obtain rfl := hw.symm; clear hw
        go_wp2_with fail
        refine (f1.out _ _ hQ).mono ?_; rintro e W1 ⟨rfl, hQ1, ho1⟩
        have t0 := ho1.cell t0 hne
        have t1 := ho1.cell t1 hne
        have hO := hO.trans ho1
        clear hQ ho1
        have hQ := hQ1
        clear hQ1
        go_wp2_with fail
        refine (g3.out _ _ hQ).mono ?_; rintro e w' ⟨rfl, hw⟩; obtain rfl := hw.symm; clear hw
        go_wp2_with fail
        go_ret
        exact ⟨rfl, hO.below (Nat.le_refl _) (fun k hk he => by omega)⟩

end Go.Proofs.Ytmgcaljaaemoaaa
