/- The contracts of package sum's methods over this seat's translation, where a part may not be: nothing is reckoned. -/
import Derived.Test.YtlabnphdfdaadaaTotal
import Derived.Test.YtlabnphdfdaadaaSumt
namespace Go.Proofs.Ytlabnphdfdaadaa
open Go.RowKit Flt

theorem arith_any {P : Program} (op : BinOp) (hop : op = .add ∨ op = .sub) (x y : Nat) (w : World) : ∃ r k, (Op.Complex.arith op .f64 x y).run P w = .ok r (w.drewN k) := by
  have main : ∀ o : Option Nat, ∃ r k, (do
      let .float _ r ← (match o with
        | some r => pure (.float .f64 r)
        | none => do pure (.float .f64 (← choose (.nanBits .f64 x y))) : Sem Value) | stuck "complexOp: float expected"
      pure r : Sem Nat).run P w = .ok r (w.drewN k) := by
    intro o
    cases o with
    | some r => exact ⟨r, 0, by simp; rfl⟩
    | none =>
      simp only [Sem.run_bind, run_choose_drew, Sem.run_pure]
      by_cases hf : (Question.nanBits .f64 x y).forced = true
      · rw [if_pos hf]; exact ⟨0, 0, by simp; rfl⟩
      · rw [if_neg hf]; exact ⟨_, 1, by simp; exact ⟨rfl, rfl⟩⟩
  rcases hop with rfl | rfl
  · obtain ⟨r, k, h⟩ := main (FloatKind.f64.format.add x y)
    refine ⟨r, k, ?_⟩
    rw [← h]
    cases hh : FloatKind.f64.format.add x y <;> simp [Op.Complex.arith, Op.floatArith, hh]
  · obtain ⟨r, k, h⟩ := main (FloatKind.f64.format.sub x y)
    refine ⟨r, k, ?_⟩
    rw [← h]
    cases hh : FloatKind.f64.format.sub x y <;> simp [Op.Complex.arith, Op.floatArith, hh]

theorem complex_any {P : Program} (op : BinOp) (hop : op = .add ∨ op = .sub) (a b c d : Nat) (w : World) :
    ∃ re im k, ∀ t, (binOp op t (.complex .f64 a b) (.complex .f64 c d)).run P w = .ok (.complex .f64 re im) (w.drewN k) := by
  obtain ⟨re, k1, h1⟩ := arith_any (P := P) op hop a c w
  obtain ⟨im, k2, h2⟩ := arith_any (P := P) op hop b d (w.drewN k1)
  refine ⟨re, im, k1 + k2, fun t => ?_⟩
  rcases hop with rfl | rfl <;> simp [binOp, Op.complexOp, h1, h2]

set_option maxHeartbeats 400000 in
theorem plus_bad (x y u v : Nat) (w : World) (h : rightB x y = false ∨ rightB u v = false) :
    Calls Try.prog 12 #[.complex .f64 x y, .complex .f64 u v] w fun e w' => e = .returned (.tuple #[.complex .f64 0 0, .int .i64 12]) ∧ ∃ k, w' = w.drewN k := by
  obtain ⟨re, im, k, hs⟩ := complex_any (P := Try.prog) .add (Or.inl rfl) x y u v w
  obtain ⟨e1, e2, e3⟩ := c_false re im
  have hck : ∀ W, Calls Try.prog 26 #[.complex .f64 re im, .bool false] W fun e w' => e = .returned (.tuple #[.complex .f64 0 0, .int .i64 12]) ∧ w' = W := by
    intro W
    have := checked_any false re im W
    rwa [e1, e2, e3] at this
  replace hck := Lib.hid hck
  clear e1 e2 e3
  cases h1 : rightB x y with
  | false =>
    clear h
    go_enter Try.func12, Try.ntmps12
    go_wp2_with (first | (go_at_call 25; refine (right_any _ _ _).mono ?_; rintro e w' ⟨rfl, hw⟩; obtain rfl := hw.symm) | (go_at_call 26; refine (hck.out _).mono ?_; rintro e w' ⟨rfl, hw⟩; obtain rfl := hw.symm))
    go_ret2
    exact ⟨rfl, _, rfl⟩
  | true =>
    have h2 : rightB u v = false := by rcases h with h | h; · rw [h1] at h; cases h
                                       · exact h
    clear h
    go_enter Try.func12, Try.ntmps12
    go_wp2_with (first | (go_at_call 25; refine (right_any _ _ _).mono ?_; rintro e w' ⟨rfl, hw⟩; obtain rfl := hw.symm) | (go_at_call 26; refine (hck.out _).mono ?_; rintro e w' ⟨rfl, hw⟩; obtain rfl := hw.symm))
    go_ret2
    exact ⟨rfl, _, rfl⟩

set_option maxHeartbeats 400000 in
theorem less_bad (x y u v : Nat) (w : World) (h : rightB x y = false ∨ rightB u v = false) :
    Calls Try.prog 13 #[.complex .f64 x y, .complex .f64 u v] w fun e w' => e = .returned (.tuple #[.complex .f64 0 0, .int .i64 12]) ∧ ∃ k, w' = w.drewN k := by
  obtain ⟨re, im, k, hs⟩ := complex_any (P := Try.prog) .sub (Or.inr rfl) x y u v w
  obtain ⟨e1, e2, e3⟩ := c_false re im
  have hck : ∀ W, Calls Try.prog 26 #[.complex .f64 re im, .bool false] W fun e w' => e = .returned (.tuple #[.complex .f64 0 0, .int .i64 12]) ∧ w' = W := by
    intro W
    have := checked_any false re im W
    rwa [e1, e2, e3] at this
  replace hck := Lib.hid hck
  clear e1 e2 e3
  cases h1 : rightB x y with
  | false =>
    clear h
    go_enter Try.func13, Try.ntmps13
    go_wp2_with (first | (go_at_call 25; refine (right_any _ _ _).mono ?_; rintro e w' ⟨rfl, hw⟩; obtain rfl := hw.symm) | (go_at_call 26; refine (hck.out _).mono ?_; rintro e w' ⟨rfl, hw⟩; obtain rfl := hw.symm))
    go_ret2
    exact ⟨rfl, _, rfl⟩
  | true =>
    have h2 : rightB u v = false := by rcases h with h | h; · rw [h1] at h; cases h
                                       · exact h
    clear h
    go_enter Try.func13, Try.ntmps13
    go_wp2_with (first | (go_at_call 25; refine (right_any _ _ _).mono ?_; rintro e w' ⟨rfl, hw⟩; obtain rfl := hw.symm) | (go_at_call 26; refine (hck.out _).mono ?_; rintro e w' ⟨rfl, hw⟩; obtain rfl := hw.symm))
    go_ret2
    exact ⟨rfl, _, rfl⟩


set_option maxHeartbeats 400000 in
theorem times_bad (x y : Nat) (n : Int) (w : World) (h : rightB x y = false) (h0 : ¬ n < 0) (h1 : n ≤ 1099511627776) :
    Calls Try.prog 21 #[.complex .f64 x y, .int .i64 n] w fun e w' => e = .returned (.tuple #[.complex .f64 0 0, .int .i64 12]) ∧ w' = w := by
  go_enter Try.func21, Try.ntmps21
  go_wp2_with (go_at_call 25; refine (right_any _ _ _).mono ?_; rintro e w' ⟨rfl, hw⟩; obtain rfl := hw.symm)
  go_ret2
  exact ⟨rfl, rfl⟩

set_option maxHeartbeats 400000 in
theorem fits_bad (x y u v : Nat) (w : World) (h : rightB x y = false ∨ rightB u v = false) :
    Calls Try.prog 14 #[.complex .f64 x y, .complex .f64 u v] w fun e w' => e = .returned (.bool false) ∧ w' = w := by
  cases h1 : rightB x y with
  | false =>
    clear h
    go_enter Try.func14, Try.ntmps14
    go_wp2_with (go_at_call 25; refine (right_any _ _ _).mono ?_; rintro e w' ⟨rfl, hw⟩; obtain rfl := hw.symm)
    go_ret
    exact ⟨rfl, rfl⟩
  | true =>
    have h2 : rightB u v = false := by rcases h with h | h; · rw [h1] at h; cases h
                                       · exact h
    clear h
    go_enter Try.func14, Try.ntmps14
    go_wp2_with (go_at_call 25; refine (right_any _ _ _).mono ?_; rintro e w' ⟨rfl, hw⟩; obtain rfl := hw.symm)
    go_ret
    exact ⟨rfl, rfl⟩

theorem plus_zero (a b : Int) (w : World) (h : okS a b = true) :
    Calls Try.prog 12 #[.complex .f64 0 0, .complex .f64 (F a) (F b)] w fun e w' => e = .returned (.tuple #[.complex .f64 (F a) (F b), .int .i64 0]) ∧ w' = w := by
  have := plus_yes 0 0 a b w (ok_lit (by omega)) h (by rw [Int.zero_add, Int.zero_add]; exact h)
  rwa [F_zero, Int.zero_add, Int.zero_add] at this

set_option maxHeartbeats 1000000 in
theorem total_bad (g c : Nat) (a b : Int) (x y : Nat) (w : World) (h : okS a b = true) (h' : rightB x y = false)
    (hc0 : w.cell? ⟨g, 0, none⟩ = some (.complex .f64 (F a) (F b))) (hc1 : w.cell? ⟨g, 1, none⟩ = some (.complex .f64 x y)) :
    Calls Try.prog 24 #[.slice (some ⟨g, 0, none⟩) 2 c] w fun e w' => e = .returned (.tuple #[.complex .f64 0 0, .int .i64 12]) ∧ ∃ k, w' = w.drewN k := by
  replace h := Lib.hid h
  replace h' := Lib.hid h'
  go_enter Try.func24, Try.ntmps24
  go_wp2
  go_loop [4, 11] (fun s i => (s = .complex .f64 0 0 ∧ i = .int .i64 0) ∨ (s = .complex .f64 (F a) (F b) ∧ i = .int .i64 1)) (fun _ i => 2 - (intOf i).toNat)
  case atStart => exact Or.inl ⟨rfl, rfl⟩
  case round =>
    rcases hrel with ⟨rfl, rfl⟩ | ⟨rfl, rfl⟩
    · go_wp2_with fail
      refine (plus_zero a b _ h.out).mono ?_; rintro e w' ⟨rfl, hw⟩; obtain rfl := hw.symm
      go_wp2_with fail
      go_round
      case rel => exact Or.inr ⟨rfl, rfl⟩
      case measure => simp [intOf]
    · go_wp2_with fail
      refine (plus_bad _ _ _ _ _ (Or.inr h'.out)).mono ?_; rintro e w' ⟨rfl, k, rfl⟩
      go_wp2_with fail
      go_ret2
      exact ⟨rfl, _, rfl⟩

theorem bytes_bad (x y : Nat) (w : World) (h : rightB x y = false) :
    Calls Try.prog 15 #[.complex .f64 x y] w fun e w' => e = .returned (.int .i64 0) ∧ w' = w := by
  have := bytes_any x y w
  rwa [h] at this

theorem pages_bad (x y : Nat) (w : World) (h : rightB x y = false) :
    Calls Try.prog 16 #[.complex .f64 x y] w fun e w' => e = .returned (.int .i64 0) ∧ w' = w := by
  have := pages_any x y w
  rwa [h] at this

end Go.Proofs.Ytlabnphdfdaadaa
