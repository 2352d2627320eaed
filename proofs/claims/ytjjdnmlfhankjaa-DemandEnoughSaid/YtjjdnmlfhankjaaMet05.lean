/- The walk of DemandMet. -/
import Derived.Test.YtjjdnmlfhankjaaLaw05
import Derived.Test.YtjjdnmlfhankjaaPut
import Derived.Deep.QuietTactic
import Derived.BigQuiet
namespace Go.Proofs.Ytjjdnmlfhankjaa
open Go.RowKit Flt
set_option linter.unusedVariables false

attribute [local irreducible] smallT unitT kindT perT pagesT alignT chargeT

def isum : List Int → Int
  | [] => 0
  | x :: l => x + isum l
theorem isum_set : ∀ (l : List Int) (i : Nat) (x : Int), i < l.length → isum (l.set i x) = isum l - l.getD i 0 + x
  | [], i, x, h => by simp at h
  | y :: l, 0, x, h => by simp [isum]; omega
  | y :: l, i + 1, x, h => by
    have := isum_set l i x (by simpa using h)
    simp only [List.set_cons_succ, isum, List.getD_cons_succ]
    omega
theorem isum_append (l : List Int) (x : Int) : isum (l ++ [x]) = isum l + x := by
  induction l with
  | nil => simp [isum]
  | cons y l ih => simp only [List.cons_append, isum, ih]; omega
theorem isum_full {per : Int} : ∀ {l : List Int}, (∀ x ∈ l, x = per) → isum l = per * l.length
  | [], _ => by simp [isum]
  | y :: l, h => by
    have := isum_full (l := l) (fun x hx => h x (List.mem_cons_of_mem _ hx))
    have hy := h y (List.mem_cons_self ..)
    simp only [isum, this, hy, List.length_cons, Int.natCast_add, Int.mul_add]
    omega
theorem isum_le {per : Int} : ∀ {l : List Int}, (∀ x ∈ l, 1 ≤ x ∧ x ≤ per) → isum l ≤ per * l.length ∧ (l.length : Int) ≤ isum l
  | [], _ => by simp [isum]
  | y :: l, h => by
    have := isum_le (l := l) (fun x hx => h x (List.mem_cons_of_mem _ hx))
    have hy := h y (List.mem_cons_self ..)
    simp only [isum, List.length_cons, Int.natCast_add, Int.mul_add]
    omega

/-- Pages that are taken one behind another: as few as can be. -/
def Few (per : Int) (L : List Int) (m n : Int) : Prop := (∀ x ∈ L, 1 ≤ x ∧ x ≤ per) ∧ isum L = m ∧ per * L.length < m + per ∧ n = L.length

theorem few_step {per : Int} {L L' : List Int} {m n n' : Int} {i : Nat} (hp : 1 ≤ per) (h : Few per L m n) (s : PutSpec L per i L' n n') : Few per L' (m + 1) n' := by
  obtain ⟨h1, h2, h3, h4⟩ := h
  rcases s with ⟨hi, hr, rfl, rfl⟩ | ⟨hf, rfl, s⟩
  · have hg : L.getD i 0 = L[i] := by simp [List.getD_eq_getElem?_getD, hi]
    unfold hasRoom at hr
    simp only [Bool.and_eq_true, decide_eq_true_eq] at hr
    refine ⟨fun x hx => ?_, by rw [isum_set _ _ _ hi]; omega, by rw [List.length_set]; omega, by rw [List.length_set]; exact h4⟩
    rcases List.mem_or_eq_of_mem_set hx with hx | rfl
    · exact h1 x hx
    · omega
  · have hall : ∀ x ∈ L, x = per := by
      intro x hx
      obtain ⟨j, hj, rfl⟩ := List.getElem_of_mem hx
      have hg : L.getD j 0 = L[j] := by simp [List.getD_eq_getElem?_getD, hj]
      have h5 := hf j hj
      have h6 := h1 L[j] hx
      rw [hg] at h5
      unfold hasRoom at h5
      simp only [Bool.and_eq_false_iff, decide_eq_false_iff_not] at h5
      omega
    have hs := isum_full hall
    rcases s with ⟨hi, h0, rfl⟩ | ⟨rfl, rfl⟩
    · have hg : L.getD i 0 = L[i] := by simp [List.getD_eq_getElem?_getD, hi]
      have := h1 L[i] (List.getElem_mem hi)
      omega
    · refine ⟨fun x hx => ?_, by rw [isum_append]; omega, ?_, by simp; omega⟩
      · rcases List.mem_append.1 hx with hx | hx
        · exact h1 x hx
        · simp at hx; omega
      · simp only [List.length_append, List.length_cons, List.length_nil, Int.natCast_add, Int.mul_add]
        omega

theorem few_end {c q : Int} {L : List Int} {n : Int} (h0 : 0 ≤ c) (h1 : c ≤ 7) (hq : mayB q = true) (h : Few (perT c) L (q / unitT c) n) : n = byT c q := by
  obtain ⟨g1, g2, g3, g4⟩ := h
  obtain ⟨b0, b1, b2, b3, b4, b5⟩ := by_ceil h0 h1 hq
  obtain ⟨p0, p1⟩ := per_pos h0 h1
  have g5 := (isum_le g1).1
  rw [g2] at g5
  rw [g4]
  rw [Int.mul_comm] at g3 g5
  -- both are the least number with so many places
  by_cases e : (L.length : Int) < byT c q
  · exfalso
    have : (L.length : Int) * perT c ≤ (byT c q - 1) * perT c := Int.mul_le_mul_of_nonneg_right (by omega) (by omega)
    rw [if_neg (by omega)] at b3
    omega
  · by_cases e2 : byT c q < (L.length : Int)
    · exfalso
      have : (byT c q + 1) * perT c ≤ (L.length : Int) * perT c := Int.mul_le_mul_of_nonneg_right (by omega) (by omega)
      rw [Int.add_mul] at this
      omega
    · omega

theorem wrap8 (c : Int) : wrap64 ((IntKind.u64.wrap c).tmod 8) = c % 8 := by
  rw [IntKind.wrap_u64, Int.tmod_eq_emod_of_nonneg (by omega)]
  unfold wrap64
  omega

theorem pages_new {w w1 : World} {t t2 : TypeId} (hb : Below ((w.alloc (.cells #[.slice none 0 0] t)).alloc (.cells #[.int .i64 0] t2)).heap.size ((w.alloc (.cells #[.slice none 0 0] t)).alloc (.cells #[.int .i64 0] t2)) w1) :
    Pages w1 (w.heap.size + 2) w.heap.size 0 (w.heap.size + 1) (.slice none 0 0) [] 0 := by
  have f0 : ∀ k o, ((w.alloc (.cells #[.slice none 0 0] t)).alloc (.cells #[.int .i64 0] t2)).heap[k]? = some o → w1.heap[k]? = some o := fun k o h => (hb.block k (Array.getElem?_eq_some_iff.1 h).1).trans h
  have h1 : ((w.alloc (.cells #[.slice none 0 0] t)).alloc (.cells #[.int .i64 0] t2)).heap[w.heap.size]? = some (.cells #[.slice none 0 0] t) :=
    (Below.heap_alloc _ _ _ (by simp)).trans (heap_alloc_new w _)
  have h2 : ((w.alloc (.cells #[.slice none 0 0] t)).alloc (.cells #[.int .i64 0] t2)).heap[w.heap.size + 1]? = some (.cells #[.int .i64 0] t2) := by
    have := heap_alloc_new (w.alloc (.cells #[.slice none 0 0] t)) (.cells #[.int .i64 0] t2)
    rwa [World.size_alloc] at this
  exact ⟨cell_of_one (f0 _ _ h1), free_of_one (f0 _ _ h1), cell_of_one (f0 _ _ h2), free_of_one (f0 _ _ h2), World.ownsRow_nil _ _ _ _, fun e => (by cases e), fun e => (by cases e)⟩

theorem Pages.below {w w1 : World} {base pb po nb : Nat} {v : Value} {L : List Int} {n : Int} (h : Pages w base pb po nb v L n) (hb : Below w.heap.size w w1) : Pages w1 base pb po nb v L n :=
  ⟨keep_b hb h.p, (hb.frozen (p := ⟨pb, po, none⟩) (by exact block_lt h.p)).trans h.pf, keep_b hb h.n, (hb.frozen (p := ⟨nb, 0, none⟩) (by exact block_lt h.n)).trans h.nf,
   (Only.of_below hb).owns h.own (fun g hg => by have := (h.own.lt g hg).2; omega), h.np, h.nn⟩

set_option maxHeartbeats 1000000 in
theorem met_in (q c : Int) (w : World) (h : mayB q = true) :
    Calls Try.prog 6 #[.int .i64 q, .int .i64 c] w fun e w' => e = .returned (.bool true) ∧ Below w.heap.size w w' := by
  have c0 : 0 ≤ c % 8 := by omega
  have c1 : c % 8 ≤ 7 := by omega
  have hw8 := wrap8 c
  generalize c % 8 = d at *
  obtain ⟨m0, m1⟩ := may_iff.1 h
  have u2 : 16 ≤ unitT d := by have := per_unit c0 c1; omega
  obtain ⟨p0, p1⟩ := per_pos c0 c1
  have d0 : 0 ≤ q / unitT d := Int.ediv_nonneg (by omega) (by omega)
  have d1 : q / unitT d ≤ 65536 := Int.le_trans (Int.ediv_le_self _ (by omega)) m1
  have hend := Lib.hid (fun (L : List Int) (n : Int) (H : Few (perT d) L (q / unitT d) n) => few_end c0 c1 h H)
  replace h := Lib.hid h
  go_enter Try.func6, Try.ntmps6
  go_wp2_with fail
  refine (awake_any _).mono ?_; rintro e w' ⟨rfl, hw⟩; obtain rfl := hw.symm
  clear hw
  go_wp2_with fail
  have hM := refMay_any q w
  rw [h.out] at hM
  refine hM.mono ?_; rintro e w' ⟨rfl, hw⟩; obtain rfl := hw.symm
  clear hw hM
  go_wp2_with fail
  refine (refUnit_any _ _).mono ?_; rintro e w1 ⟨rfl, hb⟩
  go_wp2_with fail
  have hs1 := hb.size
  simp only [World.size_alloc] at hs1
  have hP := pages_new hb
  have hB : Below w.heap.size w w1 := below_s (below_alloc (by simp) (below_alloc (Nat.le_refl _) (Below.refl _ _))) hb
  clear hb
  go_loopw [23] (fun i wr => ∃ (j : Nat) (v : Value) (L : List Int) (n : Int), (j : Int) ≤ q / unitT d ∧ i = .int .i64 j ∧ Pages wr (w.heap.size + 2) w.heap.size 0 (w.heap.size + 1) v L n ∧ Few (perT d) L j n ∧ Below w.heap.size w wr ∧ w.heap.size + 2 ≤ wr.heap.size) (fun i _ => 65536 - (intOf i).toNat)
  case atStart => exact ⟨0, _, [], 0, by omega, rfl, hP, ⟨fun x hx => (List.not_mem_nil hx).elim, rfl, by simp; omega, rfl⟩, hB, by omega⟩
  case round =>
    clear hP hB hs1
    obtain ⟨j, v, L, n, hj, rfl, hP, hF, hB, hs⟩ := hrel
    by_cases hlt : (j : Int) < q / unitT d
    · have d2 : decide ((j : Int) < q / unitT d) = true := decide_eq_true hlt
      have hj1 : ((j + 1 : Nat) : Int) ≤ q / unitT d := by omega
      have hj2 : (j : Int) < 65536 := by omega
      have hbl := (isum_le hF.1)
      have hb2 := hF.2.1
      have hLn : L.length ≤ 100000 := by omega
      have hnn := hF.2.2.2
      replace hj1 := Lib.hid hj1
      replace hP := Lib.hid hP
      replace hF := Lib.hid hF
      replace hnn := Lib.hid hnn
      clear hlt hj hb2 hbl
      go_wp2_with fail
      refine (refPer_any _ _).mono ?_; rintro e w2 ⟨rfl, hb2⟩
      go_wp2_with fail
      have hP2 := hP.out.below hb2
      refine (put_any _ (w.heap.size + 2) _ _ _ v L n _ 0 hLn ⟨by omega, by omega⟩ (fun x hx => ⟨by have := hF.out.1 x hx; omega, by have := hF.out.1 x hx; omega⟩) ⟨by have := hnn.out; omega, by have := hnn.out; omega⟩ (by omega) (by omega) (by have := hb2.size; omega) hP2).mono ?_
      rintro e w3 ⟨i, v', L', n', rfl, hS, hP3, hO, _, _⟩
      have hF3 := few_step (by omega) hF.out hS
      have hB3 := (below_s hB hb2).trans (hO.below (B := w.heap.size) (by have := hb2.size; omega) (fun b hbB hq => by
        rcases hq with hq | hq | hq
        · omega
        · omega
        · have := (hP2.own.lt b hq).1; omega))
      have hs3 := hO.size
      have hs2 := hb2.size
      have hs4 : w.heap.size + 2 ≤ w3.heap.size := by omega
      replace hF3 := Lib.hid hF3
      replace hP3 := Lib.hid hP3
      clear hS hO hP2 hs3 hs2 hb2
      go_wp2_with fail
      go_roundw
      case rel => exact ⟨j + 1, v', L', n', hj1.out, by go_num, hP3.out, hF3.out, hB3, hs4⟩
      case measure => simp [intOf]; omega
    · have he : (j : Int) = q / unitT d := by omega
      have d2 : decide ((j : Int) < q / unitT d) = false := decide_eq_false hlt
      have hn : (n == byT d q) = true := beq_iff_eq.2 (hend.out L n (by rw [← he]; exact hF))
      have hc := hP.n
      clear hP hF hlt hj he
      go_wp2_with fail
      go_quiet ((go_at_call 11; exact Calls.quiet_of_same (by_any _ _ _)))
      go_wp2_with fail
      go_ret
      exact ⟨rfl, belowN hB _⟩

theorem demandMet_walk (q c : Int) (w : World) :
    Calls Try.prog 6 #[.int .i64 q, .int .i64 c] w fun e w' => e = .returned (.bool true) ∧ Below w.heap.size w w' := by
  cases h : mayB q with
  | true => exact met_in q c w h
  | false =>
    replace h := Lib.hid h
    go_enter Try.func6, Try.ntmps6
    go_wp2_with fail
    refine (awake_any _).mono ?_; rintro e w' ⟨rfl, hw⟩; obtain rfl := hw.symm
    clear hw
    go_wp2_with fail
    have hM := refMay_any q w
    rw [h.out] at hM
    refine hM.mono ?_; rintro e w' ⟨rfl, hw⟩; obtain rfl := hw.symm
    clear hw hM
    go_wp2_with fail
    refine (awake_any _).mono ?_; rintro e w' ⟨rfl, hw⟩; obtain rfl := hw.symm
    clear hw
    go_wp2_with fail
    go_ret
    exact ⟨rfl, Below.refl _ _⟩

end Go.Proofs.Ytjjdnmlfhankjaa
