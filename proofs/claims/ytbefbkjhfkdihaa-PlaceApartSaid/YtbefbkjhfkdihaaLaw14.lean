/- The walks of PlaceBack and PlaceRegions. -/
import Derived.Test.YtbefbkjhfkdihaaAwk14
import Derived.Test.YtbefbkjhfkdihaaRef03a
import Derived.Deep.RegionHeld3
namespace Go.Proofs.Ytbefbkjhfkdihaa
open Go.RowKit Flt

attribute [local irreducible] smallT unitT kindT perT pagesT alignT chargeT

theorem new_cell1 {W : World} {o : Obj} {c : Array Value} {t : TypeId} {i : Nat} {v : Value} (h : c[i]? = some v) : ((W.alloc o).alloc (.cells c t)).cell? ⟨W.heap.size + 1, i, none⟩ = some v := by
  have := new_cell (W := W.alloc o) (t := t) h
  rwa [World.size_alloc] at this

theorem placeBack_walk (c s k : Int) (w : World) :
    Calls Try.prog 4 #[.int .i64 c, .int .i64 s, .int .i64 k] w fun e w' => e = .returned (.bool true) ∧ Below w.heap.size w w' := by
  cases ht : thereT c s k with
  | true =>
    have hf := found_pos ht
    obtain ⟨_, _, q1, q2, q3⟩ := find_pos ht
    have hfind : ∀ w, Calls Try.prog 14 #[.int .i64 (posT c s k)] w fun e w' => e = .returned (.tuple #[.int .i64 c, .int .i64 s, .int .i64 k, .int .i64 0]) ∧ ∃ n, w' = w.drewN n := by
      intro w
      have := find_yes (posT c s k) w hf
      rwa [q1, q2, q3] at this
    replace hfind := Lib.hid hfind
    clear q1 q2 q3 hf
    replace ht := Lib.hid ht
    go_enter Try.func4, Try.ntmps4
    go_wp2_with fail
    refine (placeOf_yes _ _ _ _ ht.out).mono ?_; rintro e w' ⟨rfl, hw⟩; obtain rfl := hw.symm
    clear hw
    go_wp2_with fail
    refine (awake_any _).mono ?_; rintro e w1 ⟨rfl, n1, hw1⟩
    go_wp2_with fail
    refine (hfind.out _).mono ?_; rintro e w2 ⟨rfl, n2, hw2⟩
    go_wp2_with fail
    go_ret
    exact ⟨rfl, belowN (Below.refl _ _) _⟩
  | false =>
    go_enter Try.func4, Try.ntmps4
    go_wp2_with fail
    refine (placeOf_no _ _ _ _ ht).mono ?_; rintro e w' ⟨rfl, hw⟩; obtain rfl := hw.symm
    clear hw
    go_wp2_with fail
    refine (awake_any _).mono ?_; rintro e w1 ⟨rfl, n1, hw1⟩
    go_wp2_with fail
    refine (awake_any _).mono ?_; rintro e w2 ⟨rfl, n2, hw2⟩
    go_wp2_with fail
    go_ret
    exact ⟨rfl, belowN (Below.refl _ _) _⟩

theorem regions_in (c a b k l : Int) (w : World) (h : thereT c a k = true) (g : thereT c b l = true) :
    Calls Try.prog 5 #[.int .i64 c, .int .i64 a, .int .i64 b, .int .i64 k, .int .i64 l] w fun e w' => e = .returned (.bool true) ∧ Below w.heap.size w w' := by
  obtain ⟨c0, c1⟩ := there_kind h
  obtain ⟨u0, u1, _⟩ := kind_facts c0 c1
  obtain ⟨x0, x1, x2, _, _⟩ := find_pos h
  have hl := pos_less h g
  have e1 : (posT c a k / 131072 != c + 1) = false := by
    rw [bne_eq_false_iff_eq]; unfold kdT at x2; omega
  have e2 : ((posT c a k + unitT c - 1) / 131072 != c + 1) = false := by
    rw [bne_eq_false_iff_eq]; unfold kdT at x2; omega
  have x3 : posT c a k ≤ 3276800 := by omega
  clear x1 x2
  have h := Lib.hid h
  have g := Lib.hid g
  rename_i h' g'
  clear h' g'
  by_cases hab : a < b
  · rw [show decide (a < b ∨ (a = b ∧ k < l)) = true from decide_eq_true (.inl hab)] at hl
    go_enter Try.func5, Try.ntmps5
    go_wp2_with fail
    refine (placeOf_yes _ _ _ _ h.out).mono ?_; rintro e w' ⟨rfl, hw⟩; obtain rfl := hw.symm
    clear hw
    go_wp2_with fail
    refine (placeOf_yes _ _ _ _ g.out).mono ?_; rintro e w' ⟨rfl, hw⟩; obtain rfl := hw.symm
    clear hw
    go_wp2_with fail
    refine (awake_any _).mono ?_; rintro e w1 ⟨rfl, n1, hw1⟩
    go_wp2_with fail
    refine (refUnit_any _ _).mono ?_; rintro e w2 ⟨rfl, hb2⟩
    go_wp2_with fail
    go_ret
    exact ⟨rfl, below_seq (belowN (Below.refl _ _) _) (Nat.le_refl _) hb2⟩
  · by_cases heq : a = b
    · subst heq
      rw [show decide (a < a ∨ (a = a ∧ k < l)) = decide (k < l) from decide_eq_decide.2 (by omega)] at hl
      go_enter Try.func5, Try.ntmps5
      go_wp2_with fail
      refine (placeOf_yes _ _ _ _ h.out).mono ?_; rintro e w' ⟨rfl, hw⟩; obtain rfl := hw.symm
      clear hw
      go_wp2_with fail
      refine (placeOf_yes _ _ _ _ g.out).mono ?_; rintro e w' ⟨rfl, hw⟩; obtain rfl := hw.symm
      clear hw
      go_wp2_with fail
      refine (awake_any _).mono ?_; rintro e w1 ⟨rfl, n1, hw1⟩
      go_wp2_with fail
      refine (refUnit_any _ _).mono ?_; rintro e w2 ⟨rfl, hb2⟩
      go_wp2_with fail
      go_ret
      exact ⟨rfl, below_seq (belowN (Below.refl _ _) _) (Nat.le_refl _) hb2⟩
    · have e3 : (a == b) = false := beq_eq_false_iff_ne.2 heq
      rw [show decide (a < b ∨ (a = b ∧ k < l)) = false from decide_eq_false (by omega)] at hl
      clear heq
      go_enter Try.func5, Try.ntmps5
      go_wp2_with fail
      refine (placeOf_yes _ _ _ _ h.out).mono ?_; rintro e w' ⟨rfl, hw⟩; obtain rfl := hw.symm
      clear hw
      go_wp2_with fail
      refine (placeOf_yes _ _ _ _ g.out).mono ?_; rintro e w' ⟨rfl, hw⟩; obtain rfl := hw.symm
      clear hw
      go_wp2_with fail
      refine (awake_any _).mono ?_; rintro e w1 ⟨rfl, n1, hw1⟩
      go_wp2_with fail
      refine (refUnit_any _ _).mono ?_; rintro e w2 ⟨rfl, hb2⟩
      go_wp2_with fail
      go_ret
      exact ⟨by simp; omega, below_seq (belowN (Below.refl _ _) _) (Nat.le_refl _) hb2⟩

theorem regions_out (c a b k l : Int) (w : World) (h : thereT c a k = false ∨ (thereT c a k = true ∧ thereT c b l = false)) :
    Calls Try.prog 5 #[.int .i64 c, .int .i64 a, .int .i64 b, .int .i64 k, .int .i64 l] w fun e w' => e = .returned (.bool true) ∧ Below w.heap.size w w' := by
  rcases h with h | ⟨h, g⟩
  · cases g : thereT c b l with
    | true =>
      go_enter Try.func5, Try.ntmps5
      go_wp2_with fail
      refine (placeOf_no _ _ _ _ h).mono ?_; rintro e w' ⟨rfl, hw⟩; obtain rfl := hw.symm
      clear hw
      go_wp2_with fail
      refine (placeOf_yes _ _ _ _ g).mono ?_; rintro e w' ⟨rfl, hw⟩; obtain rfl := hw.symm
      clear hw
      go_wp2_with fail
      refine (awake_any _).mono ?_; rintro e w1 ⟨rfl, n1, hw1⟩
      go_wp2_with fail
      refine (awake_any _).mono ?_; rintro e w2 ⟨rfl, n2, hw2⟩
      go_wp2_with fail
      go_ret
      exact ⟨rfl, belowN (Below.refl _ _) _⟩
    | false =>
      go_enter Try.func5, Try.ntmps5
      go_wp2_with fail
      refine (placeOf_no _ _ _ _ h).mono ?_; rintro e w' ⟨rfl, hw⟩; obtain rfl := hw.symm
      clear hw
      go_wp2_with fail
      refine (placeOf_no _ _ _ _ g).mono ?_; rintro e w' ⟨rfl, hw⟩; obtain rfl := hw.symm
      clear hw
      go_wp2_with fail
      refine (awake_any _).mono ?_; rintro e w1 ⟨rfl, n1, hw1⟩
      go_wp2_with fail
      refine (awake_any _).mono ?_; rintro e w2 ⟨rfl, n2, hw2⟩
      go_wp2_with fail
      go_ret
      exact ⟨rfl, belowN (Below.refl _ _) _⟩
  · go_enter Try.func5, Try.ntmps5
    go_wp2_with fail
    refine (placeOf_yes _ _ _ _ h).mono ?_; rintro e w' ⟨rfl, hw⟩; obtain rfl := hw.symm
    clear hw
    go_wp2_with fail
    refine (placeOf_no _ _ _ _ g).mono ?_; rintro e w' ⟨rfl, hw⟩; obtain rfl := hw.symm
    clear hw
    go_wp2_with fail
    refine (awake_any _).mono ?_; rintro e w1 ⟨rfl, n1, hw1⟩
    go_wp2_with fail
    refine (awake_any _).mono ?_; rintro e w2 ⟨rfl, n2, hw2⟩
    go_wp2_with fail
    go_ret
    exact ⟨rfl, belowN (Below.refl _ _) _⟩

theorem placeRegions_walk (c a b k l : Int) (w : World) :
    Calls Try.prog 5 #[.int .i64 c, .int .i64 a, .int .i64 b, .int .i64 k, .int .i64 l] w fun e w' => e = .returned (.bool true) ∧ Below w.heap.size w w' := by
  cases h : thereT c a k with
  | false => exact regions_out c a b k l w (.inl h)
  | true =>
    cases g : thereT c b l with
    | false => exact regions_out c a b k l w (.inr ⟨h, g⟩)
    | true => exact regions_in c a b k l w h g

end Go.Proofs.Ytbefbkjhfkdihaa
