/- The contracts of the reference's Times, and of 'same', over this seat's translation. -/
import Derived.Test.YtlabnphdfdaadaaRef04
import Derived.Test.YtlabnphdfdaadaaSumt
import Derived.Test.YtlabnphdfdaadaaBase
import Derived.Deep.QuietTactic
import Derived.BigQuiet
import Derived.IntWalk
namespace Go.Proofs.Ytlabnphdfdaadaa
open Go.RowKit Flt

theorem set_two (w : World) (k : Nat) (z0 z1 x y : Value) (t : TypeId) :
    (((w.alloc (.cells #[z0, z1] t)).drewN k).setCell ⟨w.heap.size, 0, none⟩ x).setCell ⟨w.heap.size, 1, none⟩ y = (w.alloc (.cells #[x, y] t)).drewN k := by
  show (((w.alloc (.cells #[z0, z1] t)).setCell ⟨w.heap.size, 0, none⟩ x).setCell ⟨w.heap.size, 1, none⟩ y).drewN k = _
  rw [World.setCell_alloc_new, World.setCell_alloc_new]
  rfl

theorem two_at (w : World) (k : Nat) (x y : Int) (o : Obj) (z0 z1 : Value) (t : TypeId) :
    ((((w.alloc o).alloc (.cells #[z0, z1] t)).drewN k).setCell ⟨w.heap.size + 1, 0, none⟩ (.int .i64 x)).setCell ⟨w.heap.size + 1, 1, none⟩ (.int .i64 y) = ((w.alloc o).alloc (.cells #[.int .i64 x, .int .i64 y] t)).drewN k := by
  have := set_two (w.alloc o) k z0 z1 (.int .i64 x) (.int .i64 y) t
  rwa [World.size_alloc] at this

theorem refTimes_at (a b n : Int) (h : okS a b = true) :
    (okP n = false ∧ tB a b n = 0 ∧ tP a b n = 0 ∧ tE a b n = 12) ∨
    (0 < n ∧ n ≤ 1099511627776 ∧ 1099511627776 / n < a ∧ tB a b n = 0 ∧ tP a b n = 0 ∧ tE a b n = 12) ∨
    (0 < n ∧ n ≤ 1099511627776 ∧ a ≤ 1099511627776 / n ∧ 1099511627776 / n < b ∧ tB a b n = 0 ∧ tP a b n = 0 ∧ tE a b n = 12) ∨
    (0 < n ∧ n ≤ 1099511627776 ∧ a ≤ 1099511627776 / n ∧ b ≤ 1099511627776 / n ∧ 0 ≤ a * n ∧ a * n ≤ 1099511627776 ∧ 0 ≤ b * n ∧ b * n ≤ 1099511627776 ∧ tB a b n = rB (a * n) (b * n) ∧ tP a b n = rP (a * n) (b * n) ∧ tE a b n = rE (a * n) (b * n)) ∨
    (n = 0 ∧ tB a b n = rB 0 0 ∧ tP a b n = rP 0 0 ∧ tE a b n = rE 0 0) := by
  cases hn : okP n with
  | false =>
    left
    have : ¬ (0 ≤ n ∧ n ≤ 1099511627776) := fun g => by rw [okP_iff.2 g] at hn; cases hn
    obtain ⟨e1, e2, e3⟩ := t_no h (Or.inl this)
    exact ⟨rfl, e1, e2, e3⟩
  | true =>
    right
    have g := okP_iff.1 hn
    by_cases hp : 0 < n
    · by_cases ha : 1099511627776 / n < a
      · obtain ⟨e1, e2, e3⟩ := t_no h (Or.inr ⟨hp, by omega⟩)
        exact Or.inl ⟨hp, g.2, ha, e1, e2, e3⟩
      · by_cases hb : 1099511627776 / n < b
        · obtain ⟨e1, e2, e3⟩ := t_no h (Or.inr ⟨hp, by omega⟩)
          exact Or.inr (Or.inl ⟨hp, g.2, by omega, hb, e1, e2, e3⟩)
        · obtain ⟨hk, e1, e2, e3⟩ := t_yes h g.1 g.2 (fun _ => by omega)
          obtain ⟨f1, f2, f3⟩ := r_yes hk
          obtain ⟨k1, k2, k3, k4⟩ := okS_iff.1 hk
          exact Or.inr (Or.inr (Or.inl ⟨hp, g.2, by omega, by omega, k1, k2, k3, k4, e1.trans f1.symm, e2.trans f2.symm, e3.trans f3.symm⟩))
    · obtain rfl : n = 0 := by omega
      right; right; right
      unfold tB tP tE
      simp

set_option maxHeartbeats 400000 in
theorem refTimes_no1 (a b n : Int) (w : World) (h : okS a b = true) (hn : okP n = false) :
    Calls Try.prog 22 #[.agg #[.int .i64 a, .int .i64 b], .int .i64 n] w fun e w' =>
      e = .returned (.tuple #[.agg #[.int .i64 0, .int .i64 0], .int .i64 12]) ∧
      ∃ k, w' = ((w.alloc (sumO a b)).alloc (sumO 0 0)).drewN k := by
  obtain ⟨b1l, b1h, b2l, b2h⟩ := okS_iff.1 h
  clear h
  go_enter Try.func22, Try.ntmps22
  go_wp2_with fail
  go_quiet ((go_at_call 27; exact Calls.quiet_of_same (refRight_any _ _)))
  go_wp2_with fail
  exact bodyPost_ret (v := .tuple #[.agg #[.int .i64 0, .int .i64 0], .int .i64 12]) (by simp [results, Try.results22, go_sem]) rfl ⟨rfl, nq, two_at w nq _ _ _ _ _ _⟩

set_option maxHeartbeats 400000 in
theorem refTimes_no2 (a b n : Int) (w : World) (h : okS a b = true) (h0 : 0 < n) (h1 : n ≤ 1099511627776) (h2 : 1099511627776 / n < a) :
    Calls Try.prog 22 #[.agg #[.int .i64 a, .int .i64 b], .int .i64 n] w fun e w' =>
      e = .returned (.tuple #[.agg #[.int .i64 0, .int .i64 0], .int .i64 12]) ∧
      ∃ k, w' = ((w.alloc (sumO a b)).alloc (sumO 0 0)).drewN k := by
  obtain ⟨b1l, b1h, b2l, b2h⟩ := okS_iff.1 h
  clear h
  have g0 : ¬ n = 0 := by omega
  have hn := okP_iff.2 ⟨(by omega : 0 ≤ n), h1⟩
  have g1 : Int.tdiv 1099511627776 n = 1099511627776 / n := Int.tdiv_eq_ediv_of_nonneg (by omega)
  have hd0 : (0 : Int) ≤ 1099511627776 / n := Int.ediv_nonneg (by omega) (by omega)
  have hd1 : (1099511627776 : Int) / n ≤ 1099511627776 := Int.ediv_le_self _ (by omega)
  have g2 : IntKind.i64.wrap (1099511627776 / n) = 1099511627776 / n := IntWalk.i64_in _ (by omega)
  have g3 : decide (0 < n) = true := decide_eq_true h0
  have g4 : decide (1099511627776 / n < a) = true := decide_eq_true h2
  go_enter Try.func22, Try.ntmps22
  go_wp2_with fail
  go_quiet ((go_at_call 27; exact Calls.quiet_of_same (refRight_any _ _)))
  go_wp2_with fail
  exact bodyPost_ret (v := .tuple #[.agg #[.int .i64 0, .int .i64 0], .int .i64 12]) (by simp [results, Try.results22, go_sem]) rfl ⟨rfl, nq, two_at w nq _ _ _ _ _ _⟩

set_option maxHeartbeats 400000 in
theorem refTimes_no3 (a b n : Int) (w : World) (h : okS a b = true) (h0 : 0 < n) (h1 : n ≤ 1099511627776) (h2 : a ≤ 1099511627776 / n) (h3 : 1099511627776 / n < b) :
    Calls Try.prog 22 #[.agg #[.int .i64 a, .int .i64 b], .int .i64 n] w fun e w' =>
      e = .returned (.tuple #[.agg #[.int .i64 0, .int .i64 0], .int .i64 12]) ∧
      ∃ k, w' = ((w.alloc (sumO a b)).alloc (sumO 0 0)).drewN k := by
  obtain ⟨b1l, b1h, b2l, b2h⟩ := okS_iff.1 h
  clear h
  have g0 : ¬ n = 0 := by omega
  have hn := okP_iff.2 ⟨(by omega : 0 ≤ n), h1⟩
  have g1 : Int.tdiv 1099511627776 n = 1099511627776 / n := Int.tdiv_eq_ediv_of_nonneg (by omega)
  have hd0 : (0 : Int) ≤ 1099511627776 / n := Int.ediv_nonneg (by omega) (by omega)
  have hd1 : (1099511627776 : Int) / n ≤ 1099511627776 := Int.ediv_le_self _ (by omega)
  have g2 : IntKind.i64.wrap (1099511627776 / n) = 1099511627776 / n := IntWalk.i64_in _ (by omega)
  have g3 : decide (0 < n) = true := decide_eq_true h0
  have g4 : decide (1099511627776 / n < a) = false := decide_eq_false (by omega)
  have g5 : decide (1099511627776 / n < b) = true := decide_eq_true h3
  go_enter Try.func22, Try.ntmps22
  go_wp2_with fail
  go_quiet ((go_at_call 27; exact Calls.quiet_of_same (refRight_any _ _)))
  go_wp2_with fail
  exact bodyPost_ret (v := .tuple #[.agg #[.int .i64 0, .int .i64 0], .int .i64 12]) (by simp [results, Try.results22, go_sem]) rfl ⟨rfl, nq, two_at w nq _ _ _ _ _ _⟩

set_option maxHeartbeats 400000 in
theorem refTimes_yes (a b n : Int) (w : World) (h : okS a b = true) (h0 : 0 < n) (h1 : n ≤ 1099511627776) (h2 : a ≤ 1099511627776 / n) (h3 : b ≤ 1099511627776 / n) (_k1 : 0 ≤ a * n) (_k2 : a * n ≤ 1099511627776) (_k3 : 0 ≤ b * n) (_k4 : b * n ≤ 1099511627776) :
    Calls Try.prog 22 #[.agg #[.int .i64 a, .int .i64 b], .int .i64 n] w fun e w' =>
      e = .returned (.tuple #[.agg #[.int .i64 (rB (a * n) (b * n)), .int .i64 (rP (a * n) (b * n))], .int .i64 (rE (a * n) (b * n))]) ∧
      ∃ k, w' = (((w.alloc (sumO a b)).alloc (sumO (rB (a * n) (b * n)) (rP (a * n) (b * n)))).alloc (sumO (rB (a * n) (b * n)) (rP (a * n) (b * n)))).drewN k := by
  obtain ⟨b1l, b1h, b2l, b2h⟩ := okS_iff.1 h
  clear h
  have g0 : ¬ n = 0 := by omega
  have hn := okP_iff.2 ⟨(by omega : 0 ≤ n), h1⟩
  have g1 : Int.tdiv 1099511627776 n = 1099511627776 / n := Int.tdiv_eq_ediv_of_nonneg (by omega)
  have hd0 : (0 : Int) ≤ 1099511627776 / n := Int.ediv_nonneg (by omega) (by omega)
  have hd1 : (1099511627776 : Int) / n ≤ 1099511627776 := Int.ediv_le_self _ (by omega)
  have g2 : IntKind.i64.wrap (1099511627776 / n) = 1099511627776 / n := IntWalk.i64_in _ (by omega)
  have g3 : decide (0 < n) = true := decide_eq_true h0
  have g4 : decide (1099511627776 / n < a) = false := decide_eq_false (by omega)
  have g5 : decide (1099511627776 / n < b) = false := decide_eq_false (by omega)
  go_enter Try.func22, Try.ntmps22
  go_wp2_with fail
  go_quiet ((go_at_call 27; exact Calls.quiet_of_same (refRight_any _ _)))
  go_wp2_with (go_at_call 17; refine (refOf_any _ _ _).mono ?_; rintro e w' ⟨rfl, rfl⟩)
  exact bodyPost_ret (v := .tuple #[.agg #[.int .i64 (rB (a * n) (b * n)), .int .i64 (rP (a * n) (b * n))], .int .i64 (rE (a * n) (b * n))]) (by simp [results, Try.results22, go_sem]) rfl ⟨rfl, nq, congrArg (fun W => World.alloc W _) (two_at w nq _ _ _ _ _ _)⟩

set_option maxHeartbeats 400000 in
theorem refTimes_zero (a b n : Int) (w : World) (h : okS a b = true) (h0 : n = 0) :
    Calls Try.prog 22 #[.agg #[.int .i64 a, .int .i64 b], .int .i64 n] w fun e w' =>
      e = .returned (.tuple #[.agg #[.int .i64 (rB 0 0), .int .i64 (rP 0 0)], .int .i64 (rE 0 0)]) ∧
      ∃ k, w' = (((w.alloc (sumO a b)).alloc (sumO (rB 0 0) (rP 0 0))).alloc (sumO (rB 0 0) (rP 0 0))).drewN k := by
  obtain ⟨b1l, b1h, b2l, b2h⟩ := okS_iff.1 h
  clear h
  subst h0
  have hn := okP_iff.2 (show (0 : Int) ≤ 0 ∧ (0 : Int) ≤ 1099511627776 by omega)
  have g3 : decide ((0 : Int) < 0) = false := rfl
  go_enter Try.func22, Try.ntmps22
  go_wp2_with fail
  go_quiet ((go_at_call 27; exact Calls.quiet_of_same (refRight_any _ _)))
  go_wp2_with (go_at_call 17; refine (refOf_any _ _ _).mono ?_; rintro e w' ⟨rfl, rfl⟩)
  exact bodyPost_ret (v := .tuple #[.agg #[.int .i64 (rB 0 0), .int .i64 (rP 0 0)], .int .i64 (rE 0 0)]) (by simp [results, Try.results22, go_sem]) rfl ⟨rfl, nq, congrArg (fun W => World.alloc W _) (two_at w nq _ _ _ _ _ _)⟩

theorem refTimes_any (a b n : Int) (w : World) (h : okS a b = true) :
    Calls Try.prog 22 #[.agg #[.int .i64 a, .int .i64 b], .int .i64 n] w fun e w' =>
      e = .returned (.tuple #[.agg #[.int .i64 (tB a b n), .int .i64 (tP a b n)], .int .i64 (tE a b n)]) ∧
      ((∃ k, w' = ((w.alloc (sumO a b)).alloc (sumO (tB a b n) (tP a b n))).drewN k) ∨ (∃ k, w' = (((w.alloc (sumO a b)).alloc (sumO (tB a b n) (tP a b n))).alloc (sumO (tB a b n) (tP a b n))).drewN k)) := by
  rcases refTimes_at a b n h with ⟨hn, e1, e2, e3⟩ | ⟨h0, h1, h2, e1, e2, e3⟩ | ⟨h0, h1, h2, h3, e1, e2, e3⟩ | ⟨h0, h1, h2, h3, k1, k2, k3, k4, e1, e2, e3⟩ | ⟨h0, e1, e2, e3⟩
  · rw [e1, e2, e3]; exact (refTimes_no1 a b n w h hn).mono fun _ _ g => ⟨g.1, Or.inl g.2⟩
  · rw [e1, e2, e3]; exact (refTimes_no2 a b n w h h0 h1 h2).mono fun _ _ g => ⟨g.1, Or.inl g.2⟩
  · rw [e1, e2, e3]; exact (refTimes_no3 a b n w h h0 h1 h2 h3).mono fun _ _ g => ⟨g.1, Or.inl g.2⟩
  · rw [e1, e2, e3]; exact (refTimes_yes a b n w h h0 h1 h2 h3 k1 k2 k3 k4).mono fun _ _ g => ⟨g.1, Or.inr g.2⟩
  · rw [e1, e2, e3]; exact (refTimes_zero a b n w h h0).mono fun _ _ g => ⟨g.1, Or.inr g.2⟩

set_option maxHeartbeats 400000 in
theorem same_any (a b e : Int) (w : World) (h : okS a b = true) (he : e = 0 ∨ e = 12) :
    Calls Try.prog 18 #[.complex .f64 (F a) (F b), .int .i64 e, .agg #[.int .i64 a, .int .i64 b], .int .i64 e] w fun r w' =>
      r = .returned (.bool true) ∧ ∃ k, w' = (w.alloc (sumO a b)).drewN k := by
  have hw : IntKind.i64.wrap e = e := IntWalk.i64_in _ (by omega)
  have hw2 : wrap64 e = e := by unfold wrap64; omega
  replace h := Lib.hid h
  clear he
  go_enter Try.func18, Try.ntmps18
  go_wp2_with fail
  go_quiet ((first | (go_at_call 25; exact Calls.quiet_of_same (rightF_any a b _ h.out)) | (go_at_call 15; exact Calls.quiet_of_same (bytes_F a b _ h.out)) | (go_at_call 16; exact Calls.quiet_of_same (pages_F a b _ h.out))))
  go_wp2_with fail
  go_ret
  exact ⟨rfl, nq, rfl⟩

end Go.Proofs.Ytlabnphdfdaadaa
