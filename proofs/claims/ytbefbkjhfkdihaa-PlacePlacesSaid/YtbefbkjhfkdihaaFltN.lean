/- Words of 64-bit floats held against whole numbers below 2^53: what 'int' gives of them, and when they are that number. -/
import Derived.Test.YtbefbkjhfkdihaaFlt
namespace Go.Proofs.Ytbefbkjhfkdihaa
namespace Flt
open Ieee

def leN (x N : Nat) : Bool := double.order x (F N) == some .lt || double.order x (F N) == some .eq
def ltN (x N : Nat) : Bool := double.order x (F N) == some .lt

theorem toInt_upto {x N : Nat} (hN : N < 2 ^ 53) (h0 : ge0 x = true) (h1 : leN x N = true) : ∃ n : Int, (double.read x).toInt .zero = some n ∧ 0 ≤ n ∧ n ≤ (N : Int) := by
  cases hr : double.read x with
  | nan s t =>
    exfalso
    unfold ge0 Format.order at h0
    rw [hr] at h0
    simp [Datum.order] at h0
  | infinity s =>
    exfalso
    unfold ge0 at h0
    unfold leN at h1
    rw [← F_zero] at h0
    unfold Format.order at h0 h1
    obtain ⟨m, p, hp, r0, e0⟩ := val_F (n := 0) (by decide)
    obtain ⟨m', p', hp', r1, e1⟩ := val_F (n := (N : Int)) (by omega)
    rw [hr, r0] at h0
    rw [hr, r1] at h1
    cases s <;> simp [Datum.order] at h0 h1
  | number s m p =>
    have hp := read_place hr
    obtain ⟨m0, p0, b0, r0, hb0, hb0', e0, hb0m, hp0, o0⟩ := order_num hr (n := 0) (by decide)
    obtain ⟨m1, p1, b1, r1, hb1, hb1', e1, hb1m, hp1, o1⟩ := order_num hr (n := (N : Int)) (by omega)
    unfold ge0 at h0
    rw [← F_zero, o0] at h0
    unfold leN at h1
    rw [o1] at h1
    have a0 : 0 ≤ signed s m (p - b0).toNat := by
      have hz : signed (decide ((0 : Int) < 0)) m0 (p0 - b0).toNat = 0 := by
        have : m0 = 0 := by
          have z : m0 * 2 ^ (p0 + 1074).toNat = 0 := by rw [e0]; exact Nat.zero_mul _
          rcases Nat.mul_eq_zero.1 z with h | h
          · exact h
          · have := Nat.two_pow_pos (p0 + 1074).toNat; omega
        subst this
        simp [signed]
      rw [hz] at h0
      rcases Int.lt_trichotomy (signed s m (p - b0).toNat) 0 with h | h | h
      · rw [Int.compare_eq_lt.2 h] at h0; simp at h0
      · omega
      · omega
    have a1 : signed s m (p - b1).toNat * 2 ^ (b1 + 1074).toNat ≤ N * 2 ^ K := by
      have e : signed (decide ((N : Int) < 0)) m1 (p1 - b1).toNat * 2 ^ (b1 + 1074).toNat = (N : Int) * 2 ^ K := signed_val rfl (by omega) hb1' e1
      rw [← e]
      refine Int.mul_le_mul_of_nonneg_right ?_ (Int.le_of_lt (pow_pos' _))
      rcases Int.lt_trichotomy (signed s m (p - b1).toNat) (signed (decide ((N : Int) < 0)) m1 (p1 - b1).toNat) with h | h | h
      · omega
      · omega
      · rw [Int.compare_eq_gt.2 h] at h1; simp at h1
    rw [signed_up, show (p - b1).toNat + (b1 + 1074).toNat = (p + 1074).toNat by omega] at a1
    have sg := signed_nonneg_iff.1 a0
    simp only [Datum.toInt, Datum.integral]
    refine ⟨_, rfl, ?_⟩
    have hm : signed s (Toward.zero.cut s (m <<< p.toNat) (-p).toNat) 0 = (Toward.zero.cut s (m <<< p.toNat) (-p).toNat : Nat) := by
      rcases sg with h | h
      · subst h; simp [signed]
      · subst h
        have : Toward.zero.cut s (0 <<< p.toNat) (-p).toNat = 0 := by simp [Toward.cut]
        rw [this]; cases s <;> simp [signed]
    rw [hm]
    refine ⟨by omega, ?_⟩
    have hle : m * 2 ^ (p + 1074).toNat ≤ N * 2 ^ K := by
      rcases sg with h | h
      · subst h
        have e : signed false m (p + 1074).toNat = ((m * 2 ^ (p + 1074).toNat : Nat) : Int) := by
          unfold signed; rw [if_neg Bool.false_ne_true, Nat.shiftLeft_eq]
        rw [e, ← cast_pow K] at a1
        generalize 2 ^ (p + 1074).toNat = u at *
        generalize 2 ^ K = v at *
        have : ((m * u : Nat) : Int) ≤ ((N * v : Nat) : Int) := by rw [Int.natCast_mul N]; exact a1
        exact Int.ofNat_le.1 this
      · subst h; rw [Nat.zero_mul]; exact Nat.zero_le _
    have hK := K_eq
    by_cases hpos : 0 ≤ p
    · have e : (m <<< p.toNat) * 2 ^ K = m * 2 ^ (p + 1074).toNat := by
        rw [Nat.shiftLeft_eq, Nat.mul_assoc, ← Nat.pow_add, show p.toNat + K = (p + 1074).toNat by omega]
      have : m <<< p.toNat ≤ N := by
        refine Nat.le_of_mul_le_mul_right (c := 2 ^ K) ?_ (Nat.two_pow_pos _)
        rw [e]; exact hle
      have hc : Toward.zero.cut s (m <<< p.toNat) (-p).toNat ≤ m <<< p.toNat := by
        unfold Toward.cut
        simp only [Bool.toNat_false, Nat.add_zero]
        exact Nat.div_le_self _ _
      omega
    · have hp0 : p.toNat = 0 := by omega
      rw [hp0, Nat.shiftLeft_zero]
      unfold Toward.cut
      simp only [Bool.toNat_false, Nat.add_zero, Nat.one_shiftLeft]
      by_cases hmin : (-p).toNat ≤ m.log2 + 2
      · rw [Nat.min_eq_left hmin]
        have : m / 2 ^ (-p).toNat ≤ N := by
          refine Nat.le_of_mul_le_mul_right (c := 2 ^ K) ?_ (Nat.two_pow_pos _)
          refine Nat.le_trans ?_ hle
          rw [show K = (-p).toNat + (p + 1074).toNat by omega, Nat.pow_add, ← Nat.mul_assoc]
          exact Nat.mul_le_mul_right _ (Nat.div_mul_le_self _ _)
        omega
      · rw [Nat.min_eq_right (by omega)]
        by_cases hm0 : m = 0
        · subst hm0; simp
        · have : m / 2 ^ (m.log2 + 2) = 0 := by
            refine Nat.div_eq_of_lt (Nat.lt_trans (lt_log2 hm0) ?_)
            exact Nat.pow_lt_pow_right (by decide) (by omega)
          rw [this]; simp


theorem intOfF_upto {x N : Nat} (hN : N < 2 ^ 53) (h0 : ge0 x = true) (h1 : ltN x N = true) : (double.read x).toInt .zero = some (intOfF x) ∧ 0 ≤ intOfF x ∧ intOfF x ≤ N := by
  obtain ⟨n, e, a, b⟩ := toInt_upto hN h0 (by unfold leN; unfold ltN at h1; rw [h1]; rfl)
  unfold intOfF
  rw [e]
  exact ⟨rfl, a, b⟩

/-- The word is that number (the two noughts are one). -/
def Num (x : Nat) (n : Int) : Prop := ∃ s m p, double.read x = .number s m p ∧ signed s m (p + 1074).toNat = n * 2 ^ K

theorem num_of_eq {x : Nat} {n : Int} (h : n.natAbs < 2 ^ 53) (e : double.order x (F n) = some .eq) : Num x n := by
  cases hr : double.read x with
  | nan s t =>
    exfalso
    unfold Format.order at e
    rw [hr] at e
    simp [Datum.order] at e
  | infinity s =>
    exfalso
    obtain ⟨m, p, hp, r0, e0⟩ := val_F h
    unfold Format.order at e
    rw [hr, r0] at e
    cases s <;> simp [Datum.order] at e
  | number s m p =>
    have hp := read_place hr
    obtain ⟨m1, p1, b1, r1, hb1, hb1', e1, hb1m, hp1, o1⟩ := order_num hr h
    rw [o1] at e
    refine ⟨s, m, p, hr, ?_⟩
    have g : signed (decide (n < 0)) m1 (p1 - b1).toNat * 2 ^ (b1 + 1074).toNat = n * 2 ^ K := signed_val rfl (by omega) hb1' e1
    have q : signed s m (p - b1).toNat = signed (decide (n < 0)) m1 (p1 - b1).toNat := by
      rcases Int.lt_trichotomy (signed s m (p - b1).toNat) (signed (decide (n < 0)) m1 (p1 - b1).toNat) with h | h | h
      · rw [Int.compare_eq_lt.2 h] at e; simp at e
      · exact h
      · rw [Int.compare_eq_gt.2 h] at e; simp at e
    rw [← q, signed_up, show (p - b1).toNat + (b1 + 1074).toNat = (p + 1074).toNat by omega] at g
    exact g

theorem order_Num {x : Nat} {a b : Int} (hx : Num x a) (h : b.natAbs < 2 ^ 53) : double.order x (F b) = some (compare a b) := by
  obtain ⟨s, m, p, hr, e⟩ := hx
  have hp := read_place hr
  obtain ⟨m1, p1, b1, r1, hb1, hb1', e1, hb1m, hp1, o1⟩ := order_num hr h
  rw [o1]
  have g : signed (decide (b < 0)) m1 (p1 - b1).toNat * 2 ^ (b1 + 1074).toNat = b * 2 ^ K := signed_val rfl (by omega) hb1' e1
  rw [compare_up (r := (b1 + 1074).toNat) (J := K) (x := a) (y := b) ?_ g]
  rw [signed_up, show (p - b1).toNat + (b1 + 1074).toNat = (p + 1074).toNat by omega]
  exact e

theorem order_swap {x y : Nat} (h : double.order x y = some .eq) : double.order y x = some .eq := by
  unfold Format.order at *
  cases hx : double.read x <;> cases hy : double.read y <;> rw [hx, hy] at h <;> simp only [Datum.order] at h ⊢ <;> simp_all
  · rw [Int.min_comm]; exact h.symm
  · split at h <;> cases h
  · split at h <;> cases h

theorem Num_lt {x : Nat} {a : Int} {N : Nat} (hx : Num x a) (hN : N < 2 ^ 53) : ltN x N = decide (a < N) := by
  unfold ltN
  rw [order_Num hx (by omega)]
  rcases Int.lt_trichotomy a N with g | g | g
  · rw [Int.compare_eq_lt.2 g]; simp; omega
  · rw [Int.compare_eq_eq.2 g]; simp; omega
  · rw [Int.compare_eq_gt.2 g]; simp; omega

theorem Num_ge {x : Nat} {a b : Int} (hx : Num x a) (hN : b.natAbs < 2 ^ 53) : (double.order x (F b) == some .gt || double.order x (F b) == some .eq) = decide (b ≤ a) := by
  rw [order_Num hx hN]
  rcases Int.lt_trichotomy a b with g | g | g
  · rw [Int.compare_eq_lt.2 g]; simp; omega
  · rw [Int.compare_eq_eq.2 g]; simp; omega
  · rw [Int.compare_eq_gt.2 g]; simp; omega

theorem ge_iff {x : Nat} {s : Bool} {m : Nat} {p : Int} (rx : double.read x = .number s m p) {n : Int} (h : n.natAbs < 2 ^ 53) :
    (double.order x (F n) == some .gt || double.order x (F n) == some .eq) = decide (n * 2 ^ K ≤ signed s m (p + 1074).toNat) := by
  have hp := read_place rx
  obtain ⟨m1, p1, b1, r1, hb1, hb1', e1, hb1m, hp1, o1⟩ := order_num rx h
  have g : signed (decide (n < 0)) m1 (p1 - b1).toNat * 2 ^ (b1 + 1074).toNat = n * 2 ^ K := signed_val rfl (by omega) hb1' e1
  rw [o1, ← g, show (p + 1074).toNat = (p - b1).toNat + (b1 + 1074).toNat by omega, ← signed_up]
  generalize signed s m (p - b1).toNat = u
  generalize signed (decide (n < 0)) m1 (p1 - b1).toNat = v
  have hq := pow_pos' (b1 + 1074).toNat
  have e : v * 2 ^ (b1 + 1074).toNat ≤ u * 2 ^ (b1 + 1074).toNat ↔ v ≤ u := ⟨fun h => Int.le_of_mul_le_mul_right h hq, fun h => Int.mul_le_mul_of_nonneg_right h (Int.le_of_lt hq)⟩
  rcases Int.lt_trichotomy u v with g | g | g
  · rw [Int.compare_eq_lt.2 g, decide_eq_false (by rw [e]; omega)]; rfl
  · rw [Int.compare_eq_eq.2 g, decide_eq_true (by rw [e]; omega)]; rfl
  · rw [Int.compare_eq_gt.2 g, decide_eq_true (by rw [e]; omega)]; rfl

theorem ge_mono {x : Nat} {a b : Int} (ha : a.natAbs < 2 ^ 53) (hb : b.natAbs < 2 ^ 53) (hab : a ≤ b) (h : (double.order x (F b) == some .gt || double.order x (F b) == some .eq) = true) :
    (double.order x (F a) == some .gt || double.order x (F a) == some .eq) = true := by
  cases hr : double.read x with
  | nan s t =>
    exfalso
    unfold Format.order at h
    rw [hr] at h
    simp [Datum.order] at h
  | infinity s =>
    obtain ⟨m, p, hp, r0, e0⟩ := val_F hb
    obtain ⟨m', p', hp', r0', e0'⟩ := val_F ha
    unfold Format.order at h ⊢
    rw [hr, r0] at h
    rw [hr, r0']
    cases s
    · rfl
    · simp [Datum.order] at h
  | number s m p =>
    rw [ge_iff hr ha]
    rw [ge_iff hr hb] at h
    have := of_decide_eq_true h
    exact decide_eq_true (Int.le_trans (Int.mul_le_mul_of_nonneg_right hab (Int.le_of_lt (pow_pos' _))) this)

end Flt
end Go.Proofs.Ytbefbkjhfkdihaa
