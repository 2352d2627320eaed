/- The walks of SumOrder and SumFits. -/
import Derived.Test.YtlabnphdfdaadaaAwk04
import Derived.Deep.QuietTactic
import Derived.BigQuiet
namespace Go.Proofs.Ytlabnphdfdaadaa
open Go.RowKit Flt

theorem grown_drewN {W w : World} (h : Grown W w) (n : Nat) : Grown W (w.drewN n) := by
  induction n with
  | zero => exact h
  | succ n ih => exact ih.drew

theorem plus_comm (a b c d : Int) (w : World) (h1 : okS a b = true) (h2 : okS c d = true) :
    Calls Try.prog 12 #[.complex .f64 (F c) (F d), .complex .f64 (F a) (F b)] w fun e w' =>
      e = .returned (.tuple #[.complex .f64 (F (rB (a + c) (b + d))) (F (rP (a + c) (b + d))), .int .i64 (rE (a + c) (b + d))]) ∧ w' = w := by
  have := plus_F c d a b w h2 h1
  rwa [Int.add_comm c a, Int.add_comm d b] at this

theorem plus_back (a b c d : Int) (w : World) (h1 : okS a b = true) (h2 : okS c d = true) (h3 : okS (c + a) (d + b) = true) :
    Calls Try.prog 12 #[.complex .f64 (F a) (F b), .complex .f64 (F c) (F d)] w fun e w' =>
      e = .returned (.tuple #[.complex .f64 (F (c + a)) (F (d + b)), .int .i64 0]) ∧ w' = w := by
  rw [Int.add_comm c, Int.add_comm d] at h3 ⊢
  exact plus_yes a b c d w h1 h2 h3

theorem plus_assoc (a b c d e f : Int) (w : World) (h1 : okS a b = true) (h2 : okS (c + e) (d + f) = true) :
    Calls Try.prog 12 #[.complex .f64 (F a) (F b), .complex .f64 (F (c + e)) (F (d + f))] w fun g w' =>
      g = .returned (.tuple #[.complex .f64 (F (rB (a + c + e) (b + d + f))) (F (rP (a + c + e) (b + d + f))), .int .i64 (rE (a + c + e) (b + d + f))]) ∧ w' = w := by
  have := plus_F a b (c + e) (d + f) w h1 h2
  rwa [← Int.add_assoc, ← Int.add_assoc] at this

theorem eql_same {a b : Int} (h : okS a b = true) : ((FloatKind.f64.format.order (F a) (F a) == some .eq) && (FloatKind.f64.format.order (F b) (F b) == some .eq)) = true := by
  rw [eql_FF h h]; simp

set_option maxHeartbeats 400000 in
theorem sumOrder_walk (a0 a1 b0 b1 c0 c1 : Int) (w : World) :
    Calls Try.prog 4 #[.agg #[.int .i64 a0, .int .i64 a1], .agg #[.int .i64 b0, .int .i64 b1], .agg #[.int .i64 c0, .int .i64 c1]] w fun e w' => e = .returned (.bool true) ∧ Grown w w' := by
  have hz : (FloatKind.f64.format.order 0 0 == some .eq) = true := by decide
  cases h1 : okS a0 a1 with
  | false =>
    replace h1 := Lib.hid h1
    go_enter Try.func4, Try.ntmps4
    go_wp2_with fail
    refine (of_no' a0 a1 _ h1.out).mono ?_; rintro e w' ⟨rfl, rfl⟩
    go_wp2_with fail
    refine (of_any b0 b1 _).mono ?_; rintro e w' ⟨rfl, rfl⟩
    go_wp2_with fail
    refine (of_any c0 c1 _).mono ?_; rintro e w' ⟨rfl, rfl⟩
    go_wp2_with fail
    go_wp2_with (go_at_call 11; refine (awake_any _).mono ?_; rintro e w' ⟨rfl, rfl⟩)
    go_ret
    exact ⟨rfl, by repeat (first | exact Grown.refl _ | apply Grown.drew | apply Grown.alloc)⟩
  | true =>
    cases h2 : okS b0 b1 with
    | false =>
      replace h1 := Lib.hid h1
      replace h2 := Lib.hid h2
      go_enter Try.func4, Try.ntmps4
      go_wp2_with fail
      refine (of_yes' a0 a1 _ h1.out).mono ?_; rintro e w' ⟨rfl, rfl⟩
      go_wp2_with fail
      refine (of_no' b0 b1 _ h2.out).mono ?_; rintro e w' ⟨rfl, rfl⟩
      go_wp2_with fail
      refine (of_any c0 c1 _).mono ?_; rintro e w' ⟨rfl, rfl⟩
      go_wp2_with fail
      go_wp2_with (go_at_call 11; refine (awake_any _).mono ?_; rintro e w' ⟨rfl, rfl⟩)
      go_ret
      exact ⟨rfl, by repeat (first | exact Grown.refl _ | apply Grown.drew | apply Grown.alloc)⟩
    | true =>
      cases h3 : okS c0 c1 with
      | false =>
        replace h1 := Lib.hid h1
        replace h2 := Lib.hid h2
        replace h3 := Lib.hid h3
        go_enter Try.func4, Try.ntmps4
        go_wp2_with fail
        refine (of_yes' a0 a1 _ h1.out).mono ?_; rintro e w' ⟨rfl, rfl⟩
        go_wp2_with fail
        refine (of_yes' b0 b1 _ h2.out).mono ?_; rintro e w' ⟨rfl, rfl⟩
        go_wp2_with fail
        refine (of_no' c0 c1 _ h3.out).mono ?_; rintro e w' ⟨rfl, rfl⟩
        go_wp2_with fail
        go_wp2_with (go_at_call 11; refine (awake_any _).mono ?_; rintro e w' ⟨rfl, rfl⟩)
        go_ret
        exact ⟨rfl, by repeat (first | exact Grown.refl _ | apply Grown.drew | apply Grown.alloc)⟩
      | true =>
        have hpq := eql_same (okS_r (a0 + b0) (a1 + b1))
        cases h4 : okS (a0 + b0) (a1 + b1) with
        | false =>
          obtain ⟨e1, e2, e3⟩ := r_no h4
          have E := Lib.hid (And.intro e1 (And.intro e2 e3))
          clear e1 e2 e3 hpq
          replace h1 := Lib.hid h1
          replace h2 := Lib.hid h2
          replace h3 := Lib.hid h3
          replace h4 := Lib.hid h4
          go_enter Try.func4, Try.ntmps4
          go_wp2_with fail
          refine (of_yes' a0 a1 _ h1.out).mono ?_; rintro e w' ⟨rfl, rfl⟩
          go_wp2_with fail
          refine (of_yes' b0 b1 _ h2.out).mono ?_; rintro e w' ⟨rfl, rfl⟩
          go_wp2_with fail
          refine (of_yes' c0 c1 _ h3.out).mono ?_; rintro e w' ⟨rfl, rfl⟩
          go_wp2_with fail
          refine (awake_any _).mono ?_; rintro e w' ⟨rfl, rfl⟩
          go_wp2_with fail
          refine (plus_no _ _ _ _ _ h1.out h2.out h4.out).mono ?_; rintro e w' ⟨rfl, rfl⟩
          go_wp2_with fail
          refine (plus_no _ _ _ _ _ h2.out h1.out (by rw [Int.add_comm b0, Int.add_comm b1]; exact h4.out)).mono ?_; rintro e w' ⟨rfl, rfl⟩
          go_wp2_with fail
          rw [← F_zero]
          refine (plus_F 0 0 c0 c1 _ (ok_lit (by omega)) h3.out).mono ?_; rintro e w' ⟨rfl, rfl⟩
          go_wp2_with fail
          refine (plus_F b0 b1 c0 c1 _ h2.out h3.out).mono ?_; rintro e w' ⟨rfl, rfl⟩
          go_wp2_with fail
          refine (plus_F a0 a1 _ _ _ h1.out (okS_r _ _)).mono ?_; rintro e w' ⟨rfl, rfl⟩
          go_wp2_with fail
          go_ret
          exact ⟨rfl, by repeat (first | exact Grown.refl _ | apply Grown.drew | apply Grown.alloc)⟩
        | true =>
          obtain ⟨e1, e2, e3⟩ := r_yes h4
          rw [e1, e2] at hpq
          clear e1 e2 e3
          cases h5 : okS (b0 + c0) (b1 + c1) with
          | false =>
            replace h1 := Lib.hid h1
            replace h2 := Lib.hid h2
            replace h3 := Lib.hid h3
            replace h4 := Lib.hid h4
            replace h5 := Lib.hid h5
            go_enter Try.func4, Try.ntmps4
            go_wp2_with fail
            refine (of_yes' a0 a1 _ h1.out).mono ?_; rintro e w' ⟨rfl, rfl⟩
            go_wp2_with fail
            refine (of_yes' b0 b1 _ h2.out).mono ?_; rintro e w' ⟨rfl, rfl⟩
            go_wp2_with fail
            refine (of_yes' c0 c1 _ h3.out).mono ?_; rintro e w' ⟨rfl, rfl⟩
            go_wp2_with fail
            refine (awake_any _).mono ?_; rintro e w' ⟨rfl, rfl⟩
            go_wp2_with fail
            refine (plus_yes _ _ _ _ _ h1.out h2.out h4.out).mono ?_; rintro e w' ⟨rfl, rfl⟩
            go_wp2_with fail
            refine (plus_back _ _ _ _ _ h2.out h1.out h4.out).mono ?_; rintro e w' ⟨rfl, rfl⟩
            go_wp2_with fail
            refine (plus_F _ _ c0 c1 _ h4.out h3.out).mono ?_; rintro e w' ⟨rfl, rfl⟩
            go_wp2_with fail
            refine (plus_no b0 b1 c0 c1 _ h2.out h3.out h5.out).mono ?_; rintro e w' ⟨rfl, rfl⟩
            go_wp2_with fail
            rw [← F_zero]
            refine (plus_F a0 a1 0 0 _ h1.out (ok_lit (by omega))).mono ?_; rintro e w' ⟨rfl, rfl⟩
            go_wp2_with fail
            go_ret
            exact ⟨rfl, by repeat (first | exact Grown.refl _ | apply Grown.drew | apply Grown.alloc)⟩
          | true =>
            have hln := eql_same (okS_r (a0 + b0 + c0) (a1 + b1 + c1))
            replace h1 := Lib.hid h1
            replace h2 := Lib.hid h2
            replace h3 := Lib.hid h3
            replace h4 := Lib.hid h4
            replace h5 := Lib.hid h5
            go_enter Try.func4, Try.ntmps4
            go_wp2_with fail
            refine (of_yes' a0 a1 _ h1.out).mono ?_; rintro e w' ⟨rfl, rfl⟩
            go_wp2_with fail
            refine (of_yes' b0 b1 _ h2.out).mono ?_; rintro e w' ⟨rfl, rfl⟩
            go_wp2_with fail
            refine (of_yes' c0 c1 _ h3.out).mono ?_; rintro e w' ⟨rfl, rfl⟩
            go_wp2_with fail
            refine (awake_any _).mono ?_; rintro e w' ⟨rfl, rfl⟩
            go_wp2_with fail
            refine (plus_yes _ _ _ _ _ h1.out h2.out h4.out).mono ?_; rintro e w' ⟨rfl, rfl⟩
            go_wp2_with fail
            refine (plus_back _ _ _ _ _ h2.out h1.out h4.out).mono ?_; rintro e w' ⟨rfl, rfl⟩
            go_wp2_with fail
            refine (plus_F _ _ c0 c1 _ h4.out h3.out).mono ?_; rintro e w' ⟨rfl, rfl⟩
            go_wp2_with fail
            refine (plus_yes b0 b1 c0 c1 _ h2.out h3.out h5.out).mono ?_; rintro e w' ⟨rfl, rfl⟩
            go_wp2_with fail
            refine (plus_assoc a0 a1 b0 b1 c0 c1 _ h1.out h5.out).mono ?_; rintro e w' ⟨rfl, rfl⟩
            go_wp2_with fail
            go_ret
            exact ⟨rfl, by repeat (first | exact Grown.refl _ | apply Grown.drew | apply Grown.alloc)⟩

end Go.Proofs.Ytlabnphdfdaadaa
