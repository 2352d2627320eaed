/- QuotaBack: the walk. -/
import Derived.Test.YtmgcaljaaemoaaaQuoD
import Derived.Test.YtmgcaljaaemoaaaOpen6s
namespace Go.Proofs.Ytmgcaljaaemoaaa
open Go.RowKit Flt
set_option linter.unusedVariables false

theorem bk_can {q : QS} {B P : Int} (hq : q.wf) (hb : okS B P = true) (h : q.resE B P = 0) : (q.res B P).canE B P = 0 ∧ (q.res B P).can B P = q ∧ (q.res B P).com B P = { q with cB := q.cB + B, cP := q.cP + P } := by
  unfold QS.resE at h
  split at h
  · rename_i hf
    obtain ⟨h0, h1, h2, h3, h4, h5, h6, h7, h8, h9⟩ := hq
    unfold QS.res QS.canE QS.can QS.com
    rw [if_pos hf]
    simp only
    have hc : B ≤ q.rB + B ∧ P ≤ q.rP + P := by omega
    rw [if_pos hc, if_pos hc, if_pos hc]
    simp
  · cases h
theorem bk_ref {q : QS} {B P : Int} (hq : q.wf) : QS.refE { q with cB := q.cB + B, cP := q.cP + P } B P = 0 ∧ QS.ref { q with cB := q.cB + B, cP := q.cP + P } B P = q := by
  obtain ⟨h0, h1, h2, h3, h4, h5, h6, h7, h8, h9⟩ := hq
  unfold QS.refE QS.ref
  simp only
  have hc : B ≤ q.cB + B ∧ P ≤ q.cP + P := by omega
  rw [if_pos hc, if_pos hc]
  simp
theorem bk_no {q : QS} {B P : Int} (h : q.resE B P ≠ 0) : q.resE B P = 3 ∧ q.res B P = q := by
  unfold QS.resE at h ⊢
  unfold QS.res
  split at h
  · exact absurd rfl h
  · rename_i hf; rw [if_neg hf, if_neg hf]; exact ⟨rfl, rfl⟩

theorem below_only {qb : Nat} {a w w' : World} (h : Below a.heap.size a w) (k : Only (· = qb) w w') (hq : a.heap.size ≤ qb) : Below a.heap.size a w' :=
  h.trans (k.below h.size (fun i hi he => by omega))
theorem Rat_new0 (w : World) : Rat (w.alloc (.cells (refCells ⟨0, 0, 0, 0, 0, 0⟩) 46)) w.heap.size ⟨0, 0, 0, 0, 0, 0⟩ := heap_alloc_new w _
theorem wf0 : QS.wf ⟨0, 0, 0, 0, 0, 0⟩ := by unfold QS.wf; simp

set_option maxHeartbeats 2000000 in
theorem quotaBack_walk (b p : Int) (A : Option Addr) (n c : Nat) (xs : List O6) (z : O6) (w : World) (hn : xs.length = n) (hmax : n ≤ maxLen) (hops : opsAt w A xs) (_g : True) :
    Calls Try.prog 5 #[.int .i64 b, .int .i64 p, .slice A n c, z.v] w fun e w' => e = .returned (.bool true) ∧ Below w.heap.size w w' := by
  obtain ⟨K, B, P⟩ := z
  unfold O6.v
  simp only
  have aw := Lib.hid (fun w => awake6 w)
  cases hb : okS b p with
  | false =>
    have l1 := Lib.hid (fun w => lawOf_no b p w hb)
    have n1 := Lib.hid (fun w => new_no (-1) 0 w (by decide) (by decide) (ok_not (by omega)))
    cases hs : okS B P with
    | false =>
      have l2 := Lib.hid (fun w => lawOf_no B P w hs)
      go_enter Try.func5, Try.ntmps5
      go_wp2_with fail
      refine (l1.out _).mono ?_; rintro e w1 ⟨rfl, hb1⟩
      have y1 : (w1.alloc (.cells #[.int .i64 0, .int .i64 0] 27)).cell? ⟨w.heap.size, 1, none⟩ = some (.int .i64 B) := keep_alloc (keep_b hb1 (new_cell rfl))
      have y2 : (w1.alloc (.cells #[.int .i64 0, .int .i64 0] 27)).cell? ⟨w.heap.size, 2, none⟩ = some (.int .i64 P) := keep_alloc (keep_b hb1 (new_cell rfl))
      have hB1 : Below w.heap.size w w1 := below_s (below_alloc (Nat.le_refl _) (Below.refl _ _)) hb1
      clear hb1
      go_wp2_with fail
      refine (n1.out _).mono ?_; rintro e w' ⟨rfl, hw⟩; obtain rfl := hw.symm; clear hw
      go_wp2_with fail
      refine (l2.out _).mono ?_; rintro e w2 ⟨rfl, hb2⟩
      have hB2 : Below w.heap.size w w2 := below_s (below_alloc hB1.size hB1) hb2
      clear hb2 y1 y2
      go_wp2_with fail
      refine (aw.out _).mono ?_; rintro e w3 ⟨rfl, hb3⟩
      have hB3 : Below w.heap.size w w3 := below_s (below_alloc hB2.size hB2) hb3
      go_wp2_with fail
      refine (aw.out _).mono ?_; rintro e w4 ⟨rfl, hb4⟩
      have hB4 : Below w.heap.size w w4 := below_s hB3 hb4
      go_wp2_with fail
      go_ret
      exact ⟨rfl, hB4⟩
    | true =>
      have l2 := Lib.hid (fun w => lawOf_yes B P w hs)
      go_enter Try.func5, Try.ntmps5
      go_wp2_with fail
      refine (l1.out _).mono ?_; rintro e w1 ⟨rfl, hb1⟩
      have y1 : (w1.alloc (.cells #[.int .i64 0, .int .i64 0] 27)).cell? ⟨w.heap.size, 1, none⟩ = some (.int .i64 B) := keep_alloc (keep_b hb1 (new_cell rfl))
      have y2 : (w1.alloc (.cells #[.int .i64 0, .int .i64 0] 27)).cell? ⟨w.heap.size, 2, none⟩ = some (.int .i64 P) := keep_alloc (keep_b hb1 (new_cell rfl))
      have hB1 : Below w.heap.size w w1 := below_s (below_alloc (Nat.le_refl _) (Below.refl _ _)) hb1
      clear hb1
      go_wp2_with fail
      refine (n1.out _).mono ?_; rintro e w' ⟨rfl, hw⟩; obtain rfl := hw.symm; clear hw
      go_wp2_with fail
      refine (l2.out _).mono ?_; rintro e w2 ⟨rfl, hb2⟩
      have hB2 : Below w.heap.size w w2 := below_s (below_alloc hB1.size hB1) hb2
      clear hb2 y1 y2
      go_wp2_with fail
      refine (aw.out _).mono ?_; rintro e w3 ⟨rfl, hb3⟩
      have hB3 : Below w.heap.size w w3 := below_s (below_alloc hB2.size hB2) hb3
      go_wp2_with fail
      refine (aw.out _).mono ?_; rintro e w4 ⟨rfl, hb4⟩
      have hB4 : Below w.heap.size w w4 := below_s hB3 hb4
      go_wp2_with fail
      go_ret
      exact ⟨rfl, hB4⟩
  | true =>
    have l1 := Lib.hid (fun w => lawOf_yes b p w hb)
    have n1 := Lib.hid (fun w => new_Q b p w hb)
    cases hs : okS B P with
    | false =>
      have l2 := Lib.hid (fun w => lawOf_no B P w hs)
      go_enter Try.func5, Try.ntmps5
      go_wp2_with fail
      refine (l1.out _).mono ?_; rintro e w1 ⟨rfl, hb1⟩
      have y0 : (w1.alloc (.cells #[.int .i64 b, .int .i64 p] 27)).cell? ⟨w.heap.size, 0, none⟩ = some (.int .i64 K) := keep_alloc (keep_b hb1 (new_cell rfl))
      have y1 : (w1.alloc (.cells #[.int .i64 b, .int .i64 p] 27)).cell? ⟨w.heap.size, 1, none⟩ = some (.int .i64 B) := keep_alloc (keep_b hb1 (new_cell rfl))
      have y2 : (w1.alloc (.cells #[.int .i64 b, .int .i64 p] 27)).cell? ⟨w.heap.size, 2, none⟩ = some (.int .i64 P) := keep_alloc (keep_b hb1 (new_cell rfl))
      have hsz : w.heap.size < w1.heap.size := by have := hb1.size; simp at this; omega
      have hB1 : Below w.heap.size w w1 := below_s (below_alloc (Nat.le_refl _) (Below.refl _ _)) hb1
      clear hb1
      go_wp2_with fail
      refine (n1.out _).mono ?_; rintro e w5 ⟨rfl, hQ, hb5⟩
      simp only [World.size_alloc] at hQ
      have y0 := keep_b hb5 y0
      have y1 := keep_b hb5 y1
      have y2 := keep_b hb5 y2
      have hB5 : Below w.heap.size w w5 := below_s (below_alloc hB1.size hB1) hb5
      have hql := hQ.cells.2.2
      clear hb5 hB1
      go_wp2_with fail
      refine (l2.out _).mono ?_; rintro e w2 ⟨rfl, hb2⟩
      have y0 := keep_b hb2 y0
      have hQ := hQ.below hb2
      have hB2 : Below w.heap.size w w2 := below_s hB5 hb2
      have hql := hQ.cells.2.2
      clear hb2 y1 y2 hB5
      go_wp2_with fail
      refine (aw.out _).mono ?_; rintro e w3 ⟨rfl, hb3⟩
      have y0 : w3.cell? ⟨w.heap.size, 0, none⟩ = some (.int .i64 K) := keep_b hb3 (keep_alloc y0)
      have hQ : Qat w3 (w1.heap.size + 1) ⟨b, p, 0, 0, 0, 0⟩ := Qat.below (hQ.only (bs := fun _ => False) ((Only.refl _ _).alloc _) (fun q => q)) hb3
      have hB3 : Below w.heap.size w w3 := below_s (below_alloc hB2.size hB2) hb3
      clear hb3 hB2 hql
      go_wp2_with fail
      refine (aw.out _).mono ?_; rintro e w4 ⟨rfl, hb4⟩
      have hB4 : Below w.heap.size w w4 := below_s hB3 hb4
      go_wp2_with fail
      go_ret
      exact ⟨rfl, hB4⟩
    | true =>
      have l2 := Lib.hid (fun w => lawOf_yes B P w hs)
      by_cases hlen : n ≤ 1000
      · have hwf1 := newQ_wf hb
        replace hb := Lib.hid hb
        replace hs := Lib.hid hs
        replace hops := Lib.hid hops
        go_enter Try.func5, Try.ntmps5
        go_wp2_with fail
        refine (l1.out _).mono ?_; rintro e w1 ⟨rfl, hb1⟩
        have y0 : (w1.alloc (.cells #[.int .i64 b, .int .i64 p] 27)).cell? ⟨w.heap.size, 0, none⟩ = some (.int .i64 K) := keep_alloc (keep_b hb1 (new_cell rfl))
        have y1 : (w1.alloc (.cells #[.int .i64 b, .int .i64 p] 27)).cell? ⟨w.heap.size, 1, none⟩ = some (.int .i64 B) := keep_alloc (keep_b hb1 (new_cell rfl))
        have y2 : (w1.alloc (.cells #[.int .i64 b, .int .i64 p] 27)).cell? ⟨w.heap.size, 2, none⟩ = some (.int .i64 P) := keep_alloc (keep_b hb1 (new_cell rfl))
        have hsz : w.heap.size < w1.heap.size := by have := hb1.size; simp at this; omega
        have hB1 : Below w.heap.size w w1 := below_s (below_alloc (Nat.le_refl _) (Below.refl _ _)) hb1
        clear hb1
        go_wp2_with fail
        refine (n1.out _).mono ?_; rintro e w5 ⟨rfl, hQ, hb5⟩
        simp only [World.size_alloc] at hQ
        have y0 := keep_b hb5 y0
        have y1 := keep_b hb5 y1
        have y2 := keep_b hb5 y2
        have hB5 : Below w.heap.size w w5 := below_s (below_alloc hB1.size hB1) hb5
        have hql := hQ.cells.2.2
        clear hb5 hB1
        go_wp2_with fail
        refine (l2.out _).mono ?_; rintro e w2 ⟨rfl, hb2⟩
        have y0 := keep_b hb2 y0
        have hQ := hQ.below hb2
        have hB2 : Below w.heap.size w w2 := below_s hB5 hb2
        have hql := hQ.cells.2.2
        clear hb2 y1 y2 hB5
        go_wp2_with fail
        refine (aw.out _).mono ?_; rintro e w3 ⟨rfl, hb3⟩
        have y0 : w3.cell? ⟨w.heap.size, 0, none⟩ = some (.int .i64 K) := keep_b hb3 (keep_alloc y0)
        have hQ : Qat w3 (w1.heap.size + 1) ⟨b, p, 0, 0, 0, 0⟩ := Qat.below (hQ.only (bs := fun _ => False) ((Only.refl _ _).alloc _) (fun q => q)) hb3
        have hB3 : Below w.heap.size w w3 := below_s (below_alloc hB2.size hB2) hb3
        clear hb3 hB2 hql
        generalize hqb : w1.heap.size + 1 = qb at hQ
        have hlq : w.heap.size < qb := by omega
        go_wp2_with fail
        go_loopw [61] (fun i wr => ∃ (j : Nat) (q : QS), j ≤ xs.length ∧ i = .int .i64 j ∧ q.wf ∧ Qat wr qb q ∧ Only (· = qb) w3 wr) (fun i _ => xs.length - (intOf i).toNat)
        case atStart => exact ⟨0, ⟨b, p, 0, 0, 0, 0⟩, Nat.zero_le _, rfl, hwf1, hQ, Only.refl _ _⟩
        case round =>
          obtain ⟨j, q, hj, rfl, hq, hQj, hO⟩ := hrel
          clear hQ hwf1
          by_cases hlt : j < xs.length
          · obtain ⟨ob, off, rfl, hcs⟩ := hops.out (by omega)
            have hcj := hcs j hlt
            clear hcs
            generalize xs[j] = z at hcj
            obtain ⟨K1, B1, P1⟩ := z
            obtain ⟨h0, h1, h2⟩ := hcj
            have hob : ob < w.heap.size := block_lt h0
            have hno : ¬ (ob = qb) := by omega
            have x0 : wr.cell? ⟨ob, off + j * 3, none⟩ = some (.int .i64 K1) := hO.cell (keep_b hB3 h0) hno
            have x1 : wr.cell? ⟨ob, off + j * 3 + 1, none⟩ = some (.int .i64 B1) := hO.cell (keep_b hB3 h1) hno
            have x2 : wr.cell? ⟨ob, off + j * 3 + 2, none⟩ = some (.int .i64 P1) := hO.cell (keep_b hB3 h2) hno
            have hql := hQj.cells.2.2
            replace hq := Lib.hid hq
            clear h0 h1 h2
            go_wp2_with fail
            refine (done_any qb (wr.heap.size + 1) q ⟨0, 0, 0, 0, 0, 0⟩ K1 B1 P1 _ (hQj.only (bs := fun _ => False) (((Only.refl _ _).alloc _).alloc _) (fun q => q)) (by have := Rat_new0 (wr.alloc (.cells #[.int .i64 K1, .int .i64 B1, .int .i64 P1] 23)); rwa [World.size_alloc] at this) hq.out wf0 (by omega)).mono ?_
            rintro e w6 ⟨x, rfl, _, hQ6, _, ho6⟩
            have hO6 : Only (· = qb) w3 w6 := ((hO.alloc _).alloc _).seq ho6 (fun i hi h => h.elim id (fun h => by have := hO.size; omega))
            go_wp2_with fail
            go_round
            case rel => exact ⟨j + 1, _, by omega, by go_num, QS.next_wf hq.out K1 B1 P1, hQ6, hO6⟩
            case measure => simp [intOf]; omega
          · obtain rfl : j = xs.length := by omega
            have y0 := hO.cell y0 (fun (h : w.heap.size = qb) => by omega)
            have hB4 : Below w.heap.size w wr := below_only hB3 hO (by omega)
            obtain ⟨k1, k2, k3, _⟩ := QS.ok hq
            have e1 := eql_self k1
            have e2 := eql_self k2
            have e3 := eql_self k3
            have lm := Lib.hid (fun W (h : Qat W qb q) => limit_any qb q W h)
            have cm := Lib.hid (fun W (h : Qat W qb q) => charged_any qb q W h)
            have rm := Lib.hid (fun W (h : Qat W qb q) => reserved_any qb q W h)
            clear k1 k2 k3 hQ
            by_cases hE : q.resE B P = 0
            · have r1 := fun W (h : Qat W qb q) => reserve_yes qb q B P W hq hs.out h
              rw [hE] at r1
              have hw1 : (q.res B P).wf := QS.op_wf (k := 1) hq hs.out
              obtain ⟨c1, c2, c3⟩ := bk_can hq hs.out hE
              have can1 := fun W (h : Qat W qb (q.res B P)) => cancel_yes qb _ B P W hw1 hs.out h
              have com1 := fun W (h : Qat W qb (q.res B P)) => commit_yes qb _ B P W hw1 hs.out h
              have hw2 : ((q.res B P).com B P).wf := QS.op_wf (k := 2) hw1 hs.out
              rw [c1, c2] at can1
              rw [c3] at hw2
              rw [c1, c3] at com1
              have ref1 := fun W (h : Qat W qb { q with cB := q.cB + B, cP := q.cP + P }) => refund_yes qb _ B P W hw2 hs.out h
              rw [(bk_ref hq).1, (bk_ref hq).2] at ref1
              replace r1 := Lib.hid r1
              replace can1 := Lib.hid can1
              replace com1 := Lib.hid com1
              replace ref1 := Lib.hid ref1
              generalize q.res B P = q1 at *
              clear hw1 hw2 c1 c2 c3 hq hE
              go_wp2_with fail
              refine (lm.out _ hQj).mono ?_; rintro e w' ⟨rfl, hw⟩; obtain rfl := hw.symm; clear hw; go_wp2_with fail
              refine (cm.out _ hQj).mono ?_; rintro e w' ⟨rfl, hw⟩; obtain rfl := hw.symm; clear hw; go_wp2_with fail
              refine (rm.out _ hQj).mono ?_; rintro e w' ⟨rfl, hw⟩; obtain rfl := hw.symm; clear hw; go_wp2_with fail
              refine (r1.out _ hQj).mono ?_; rintro e W1 ⟨rfl, hQ1, ho1⟩
              have y0 := ho1.cell y0 (fun (h : w.heap.size = qb) => by omega)
              have hB4 : Below w.heap.size w W1 := below_only hB4 ho1 (by omega)
              clear hQj ho1
              by_cases hpar : Int.tmod K 2 = 0
              · go_wp2_with fail
                refine (can1.out _ hQ1).mono ?_; rintro e W2 ⟨rfl, hQj, ho1⟩
                have hB4 : Below w.heap.size w W2 := below_only hB4 ho1 (by omega)
                go_wp2_with fail
                refine (lm.out _ hQj).mono ?_; rintro e w' ⟨rfl, hw⟩; obtain rfl := hw.symm; clear hw; go_wp2_with fail
                refine (cm.out _ hQj).mono ?_; rintro e w' ⟨rfl, hw⟩; obtain rfl := hw.symm; clear hw; go_wp2_with fail
                refine (rm.out _ hQj).mono ?_; rintro e w' ⟨rfl, hw⟩; obtain rfl := hw.symm; clear hw; go_wp2_with fail
                go_ret
                exact ⟨rfl, hB4⟩
              · go_wp2_with fail
                refine (com1.out _ hQ1).mono ?_; rintro e W2 ⟨rfl, hQ2, ho1⟩
                have hB4 : Below w.heap.size w W2 := below_only hB4 ho1 (by omega)
                clear ho1
                go_wp2_with fail
                refine (ref1.out _ hQ2).mono ?_; rintro e W3 ⟨rfl, hQj, ho1⟩
                have hB4 : Below w.heap.size w W3 := below_only hB4 ho1 (by omega)
                go_wp2_with fail
                refine (lm.out _ hQj).mono ?_; rintro e w' ⟨rfl, hw⟩; obtain rfl := hw.symm; clear hw; go_wp2_with fail
                refine (cm.out _ hQj).mono ?_; rintro e w' ⟨rfl, hw⟩; obtain rfl := hw.symm; clear hw; go_wp2_with fail
                refine (rm.out _ hQj).mono ?_; rintro e w' ⟨rfl, hw⟩; obtain rfl := hw.symm; clear hw; go_wp2_with fail
                go_ret
                exact ⟨rfl, hB4⟩
            · have r1 := fun W (h : Qat W qb q) => reserve_yes qb q B P W hq hs.out h
              rw [(bk_no hE).1, (bk_no hE).2] at r1
              replace r1 := Lib.hid r1
              clear hq hE
              go_wp2_with fail
              refine (lm.out _ hQj).mono ?_; rintro e w' ⟨rfl, hw⟩; obtain rfl := hw.symm; clear hw; go_wp2_with fail
              refine (cm.out _ hQj).mono ?_; rintro e w' ⟨rfl, hw⟩; obtain rfl := hw.symm; clear hw; go_wp2_with fail
              refine (rm.out _ hQj).mono ?_; rintro e w' ⟨rfl, hw⟩; obtain rfl := hw.symm; clear hw; go_wp2_with fail
              refine (r1.out _ hQj).mono ?_; rintro e W1 ⟨rfl, hQj, ho1⟩
              have hB4 : Below w.heap.size w W1 := below_only hB4 ho1 (by omega)
              go_wp2_with fail
              refine (lm.out _ hQj).mono ?_; rintro e w' ⟨rfl, hw⟩; obtain rfl := hw.symm; clear hw; go_wp2_with fail
              refine (cm.out _ hQj).mono ?_; rintro e w' ⟨rfl, hw⟩; obtain rfl := hw.symm; clear hw; go_wp2_with fail
              refine (rm.out _ hQj).mono ?_; rintro e w' ⟨rfl, hw⟩; obtain rfl := hw.symm; clear hw; go_wp2_with fail
              go_ret
              exact ⟨rfl, hB4⟩
      · replace hlen : 1000 < n := by omega
        go_enter Try.func5, Try.ntmps5
        go_wp2_with fail
        refine (l1.out _).mono ?_; rintro e w1 ⟨rfl, hb1⟩
        have y0 : (w1.alloc (.cells #[.int .i64 b, .int .i64 p] 27)).cell? ⟨w.heap.size, 0, none⟩ = some (.int .i64 K) := keep_alloc (keep_b hb1 (new_cell rfl))
        have y1 : (w1.alloc (.cells #[.int .i64 b, .int .i64 p] 27)).cell? ⟨w.heap.size, 1, none⟩ = some (.int .i64 B) := keep_alloc (keep_b hb1 (new_cell rfl))
        have y2 : (w1.alloc (.cells #[.int .i64 b, .int .i64 p] 27)).cell? ⟨w.heap.size, 2, none⟩ = some (.int .i64 P) := keep_alloc (keep_b hb1 (new_cell rfl))
        have hsz : w.heap.size < w1.heap.size := by have := hb1.size; simp at this; omega
        have hB1 : Below w.heap.size w w1 := below_s (below_alloc (Nat.le_refl _) (Below.refl _ _)) hb1
        clear hb1
        go_wp2_with fail
        refine (n1.out _).mono ?_; rintro e w5 ⟨rfl, hQ, hb5⟩
        simp only [World.size_alloc] at hQ
        have y0 := keep_b hb5 y0
        have y1 := keep_b hb5 y1
        have y2 := keep_b hb5 y2
        have hB5 : Below w.heap.size w w5 := below_s (below_alloc hB1.size hB1) hb5
        have hql := hQ.cells.2.2
        clear hb5 hB1
        go_wp2_with fail
        refine (l2.out _).mono ?_; rintro e w2 ⟨rfl, hb2⟩
        have y0 := keep_b hb2 y0
        have hQ := hQ.below hb2
        have hB2 : Below w.heap.size w w2 := below_s hB5 hb2
        have hql := hQ.cells.2.2
        clear hb2 y1 y2 hB5
        go_wp2_with fail
        refine (aw.out _).mono ?_; rintro e w3 ⟨rfl, hb3⟩
        have y0 : w3.cell? ⟨w.heap.size, 0, none⟩ = some (.int .i64 K) := keep_b hb3 (keep_alloc y0)
        have hQ : Qat w3 (w1.heap.size + 1) ⟨b, p, 0, 0, 0, 0⟩ := Qat.below (hQ.only (bs := fun _ => False) ((Only.refl _ _).alloc _) (fun q => q)) hb3
        have hB3 : Below w.heap.size w w3 := below_s (below_alloc hB2.size hB2) hb3
        clear hb3 hB2 hql
        go_wp2_with fail
        refine (aw.out _).mono ?_; rintro e w4 ⟨rfl, hb4⟩
        have hB4 : Below w.heap.size w w4 := below_s hB3 hb4
        go_wp2_with fail
        go_ret
        exact ⟨rfl, hB4⟩

end Go.Proofs.Ytmgcaljaaemoaaa
