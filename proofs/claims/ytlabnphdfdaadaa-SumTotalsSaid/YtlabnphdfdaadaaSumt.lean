/- The contract of (Sum).Times over this seat's translation, at sums of whole parts. -/
import Derived.Test.YtlabnphdfdaadaaSumb
import Derived.IntWalk
namespace Go.Proofs.Ytlabnphdfdaadaa
open Go.RowKit Flt

theorem max_run {P : Program} (a b : Int) (ha : a.natAbs < 2 ^ 53) (hb : b.natAbs < 2 ^ 53) (w : World) (ts : Array TypeId) (t : TypeId) :
    (Builtin.max_ ts t #[.float .f64 (F a), .float .f64 (F b)]).run P w = .ok (.float .f64 (F (max a b))) w := by
  have h := order_val (val_F ha) (val_F hb)
  have h' : FloatKind.f64.format.order (F a) (F b) = some (compare a b) := h
  rcases Int.lt_trichotomy a b with g | g | g
  · rw [Int.compare_eq_lt.2 g] at h'
    rw [Int.max_eq_right (by omega)]
    simp [Builtin.max_, Builtin.max2, h']
  · subst g
    rw [Int.compare_eq_eq.2 rfl] at h'
    rw [Int.max_self]
    simp [Builtin.max_, Builtin.max2, h']
  · rw [Int.compare_eq_gt.2 g] at h'
    rw [Int.max_eq_left (by omega)]
    simp [Builtin.max_, Builtin.max2, h']

theorem mul_le {a n M : Int} (hn : 0 < n) (h : a ≤ M / n) : a * n ≤ M := by
  have := Int.mul_le_of_le_ediv hn h
  exact this

theorem lt_mul {a n M : Int} (hn : 0 < n) (h : M / n < a) : M < a * n := Int.lt_mul_of_ediv_lt hn h

theorem t_no {a b n : Int} (h : okS a b = true) (g : ¬ (0 ≤ n ∧ n ≤ 1099511627776) ∨ 0 < n ∧ 1099511627776 / n < max a b) : tB a b n = 0 ∧ tP a b n = 0 ∧ tE a b n = 12 := by
  unfold tB tP tE
  rcases g with g | ⟨g0, g⟩
  · simp [g]
  · have hk : okS (a * n) (b * n) = false := by
      have hab := okS_iff.1 h
      rw [← Bool.not_eq_true, okS_iff]
      rintro ⟨k0, k1, k2, k3⟩
      rcases Int.lt_or_le (1099511627776 / n) a with q | q
      · have := lt_mul g0 q; omega
      · have := lt_mul (a := b) (M := 1099511627776) g0 (by omega); omega
    obtain ⟨e1, e2, e3⟩ := r_no hk
    rw [e1, e2, e3]
    simp

theorem t_yes {a b n : Int} (h : okS a b = true) (g0 : 0 ≤ n) (g1 : n ≤ 1099511627776) (g : 0 < n → max a b ≤ 1099511627776 / n) :
    okS (a * n) (b * n) = true ∧ tB a b n = a * n ∧ tP a b n = b * n ∧ tE a b n = 0 := by
  have hab := okS_iff.1 h
  have hk : okS (a * n) (b * n) = true := by
    rw [okS_iff]
    rcases Int.lt_or_le 0 n with q | q
    · have := g q
      have q1 := mul_le (a := a) (M := 1099511627776) q (by omega)
      have q2 := mul_le (a := b) (M := 1099511627776) q (by omega)
      exact ⟨Int.mul_nonneg hab.1 g0, q1, Int.mul_nonneg hab.2.2.1 g0, q2⟩
    · obtain rfl : n = 0 := by omega
      simp
  obtain ⟨e1, e2, e3⟩ := r_yes hk
  unfold tB tP tE
  rw [if_pos ⟨g0, g1⟩, if_pos ⟨g0, g1⟩, if_pos ⟨g0, g1⟩]
  exact ⟨hk, e1, e2, e3⟩

theorem mul_bits {a b n : Int} (h : okS a b = true) (g0 : 0 ≤ n) (g1 : n ≤ 1099511627776) (hk : okS (a * n) (b * n) = true) :
    cMulBits (F a) (F b) (floatOfInt .f64 n) 0 = some (F (a * n), F (b * n)) := by
  have hab := okS_iff.1 h
  have hm := okS_iff.1 hk
  show cMulBits (F a) (F b) (F n) 0 = _
  rw [← F_zero]
  unfold cMulBits floatBits
  simp only [show FloatKind.f64.format = Ieee.double from rfl]
  rw [mul_F hab.1 g0 (by omega) (by omega) (by omega)]
  simp only [Option.bind_some]
  rw [mul_F hab.2.2.1 (Int.le_refl 0) (by omega) (by omega) (by omega)]
  simp only [Option.bind_some]
  rw [sub_val (val_F (by omega)) (val_F (by omega)) (by omega)]
  simp only [Option.bind_some]
  rw [mul_F hab.1 (Int.le_refl 0) (by omega) (by omega) (by omega)]
  simp only [Option.bind_some]
  rw [mul_F hab.2.2.1 g0 (by omega) (by omega) (by omega)]
  simp only [Option.bind_some]
  rw [add_val (val_F (by omega)) (val_F (by omega)) (by omega)]
  simp

theorem checked_yes (x y : Nat) (w : World) (h : rightB x y = true) :
    Calls Try.prog 26 #[.complex .f64 x y, .bool true] w fun e w' => e = .returned (.tuple #[.complex .f64 x y, .int .i64 0]) ∧ w' = w := by
  refine (checked_any true x y w).mono ?_
  rintro e w' ⟨rfl, rfl⟩
  obtain ⟨f1, f2, f3⟩ := c_yes h
  rw [f1, f2, f3]
  exact ⟨rfl, rfl⟩

set_option maxHeartbeats 400000 in
theorem times_big (x y : Nat) (n : Int) (w : World) (h : n < 0 ∨ 1099511627776 < n) :
    Calls Try.prog 21 #[.complex .f64 x y, .int .i64 n] w fun e w' => e = .returned (.tuple #[.complex .f64 0 0, .int .i64 12]) ∧ w' = w := by
  rcases h with h | h
  · go_enter Try.func21, Try.ntmps21
    go_wp2_with (go_at_call 25; refine (right_any _ _ _).mono ?_; rintro e w' ⟨rfl, rfl⟩)
    go_ret2
    exact ⟨rfl, rfl⟩
  · have h0 : ¬ n < 0 := by omega
    go_enter Try.func21, Try.ntmps21
    go_wp2_with (go_at_call 25; refine (right_any _ _ _).mono ?_; rintro e w' ⟨rfl, rfl⟩)
    go_ret2
    exact ⟨rfl, rfl⟩

set_option maxHeartbeats 400000 in
theorem times_F (a b n : Int) (w : World) (h : okS a b = true) :
    Calls Try.prog 21 #[.complex .f64 (F a) (F b), .int .i64 n] w fun e w' =>
      e = .returned (.tuple #[.complex .f64 (F (tB a b n)) (F (tP a b n)), .int .i64 (tE a b n)]) ∧ w' = w := by
  by_cases hn : n < 0 ∨ 1099511627776 < n
  · obtain ⟨e1, e2, e3⟩ := t_no h (n := n) (Or.inl (by omega))
    rw [e1, e2, e3, F_zero]
    exact times_big _ _ n w hn
  · have h0 : ¬ n < 0 := by omega
    have h1 : n ≤ 1099511627776 := by omega
    have hab := okS_iff.1 h
    have r1 := right_ok h
    have hm := max_run (P := Try.prog) a b (by omega) (by omega) w
    by_cases hp : 0 < n
    · have hd0 : (0 : Int) ≤ 1099511627776 / n := Int.ediv_nonneg (by omega) (by omega)
      have hd1 : (1099511627776 : Int) / n ≤ 1099511627776 := Int.ediv_le_self _ (by omega)
      by_cases hx : 1099511627776 / n < max a b
      · obtain ⟨e1, e2, e3⟩ := t_no h (Or.inr ⟨hp, hx⟩)
        have hg : (FloatKind.f64.format.order (F (max a b)) (floatOfInt .f64 (1099511627776 / n)) == some .gt) = true := by
          rw [show floatOfInt .f64 (1099511627776 / n) = F (1099511627776 / n) from rfl]
          exact (gt_F (by omega) (by omega)).trans (by simpa using hx)
        rw [e1, e2, e3, F_zero]
        clear e1 e2 e3 h hx hab hd0 hd1
        generalize F (max a b) = fm at *
        generalize F a = fa at *
        generalize F b = fb at *
        go_enter Try.func21, Try.ntmps21
        go_wp2_with (go_at_call 25; refine (right_any _ _ _).mono ?_; rintro e w' ⟨rfl, rfl⟩)
        go_ret2
        exact ⟨rfl, rfl⟩
      · obtain ⟨hk, e1, e2, e3⟩ := t_yes h (by omega) h1 (fun _ => by omega)
        have hg : (FloatKind.f64.format.order (F (max a b)) (floatOfInt .f64 (1099511627776 / n)) == some .gt) = false := by
          rw [show floatOfInt .f64 (1099511627776 / n) = F (1099511627776 / n) from rfl]
          exact (gt_F (by omega) (by omega)).trans (by simpa using hx)
        have hs := fun t => run_complex_mul (P := Try.prog) w t _ _ _ _ _ _ (mul_bits h (by omega) h1 hk)
        have rk := right_ok hk
        rw [e1, e2, e3]
        clear e1 e2 e3 h hx hab hd0 hd1 hk
        generalize F (a * n) = fx at *
        generalize F (b * n) = fy at *
        generalize F (max a b) = fm at *
        generalize F a = fa at *
        generalize F b = fb at *
        go_enter Try.func21, Try.ntmps21
        go_wp2_with (first | (go_at_call 25; refine (right_any _ _ _).mono ?_; rintro e w' ⟨rfl, rfl⟩) | (go_at_call 26; refine (checked_yes _ _ _ rk).mono ?_; rintro e w' ⟨rfl, rfl⟩))
        go_ret2
        exact ⟨rfl, rfl⟩
    · obtain rfl : n = 0 := by omega
      obtain ⟨hk, e1, e2, e3⟩ := t_yes h (by omega) h1 (fun _ => by omega)
      have hs := fun t => run_complex_mul (P := Try.prog) w t _ _ _ _ _ _ (mul_bits h (by omega) h1 hk)
      have rk := right_ok hk
      rw [e1, e2, e3]
      clear e1 e2 e3 h hab hk
      generalize F (a * 0) = fx at *
      generalize F (b * 0) = fy at *
      generalize F (max a b) = fm at *
      generalize F a = fa at *
      generalize F b = fb at *
      go_enter Try.func21, Try.ntmps21
      go_wp2_with (first | (go_at_call 25; refine (right_any _ _ _).mono ?_; rintro e w' ⟨rfl, rfl⟩) | (go_at_call 26; refine (checked_yes _ _ _ rk).mono ?_; rintro e w' ⟨rfl, rfl⟩))
      go_ret2
      exact ⟨rfl, rfl⟩

end Go.Proofs.Ytlabnphdfdaadaa
