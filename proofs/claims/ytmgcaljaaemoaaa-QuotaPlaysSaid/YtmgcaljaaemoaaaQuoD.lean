/- done of chapter 6 (package garthlaw06): one call of the quota and of the document's. -/
import Derived.Test.YtmgcaljaaemoaaaQuoW
namespace Go.Proofs.Ytmgcaljaaemoaaa
open Go.RowKit Flt
set_option linter.unusedVariables false

/-- What a call leaves. -/
def QS.next (q : QS) (K B P : Int) : QS := if (1 ≤ K ∧ K ≤ 5) ∧ okS B P = true then q.op K B P else q
theorem QS.next_wf {q : QS} (h : q.wf) (K B P : Int) : (q.next K B P).wf := by
  unfold QS.next
  split
  · rename_i hc; exact QS.op_wf h hc.2
  · exact h

def DonePost (w : World) (qb wb : Nat) (q r : QS) (K B P : Int) (e : Ending) (w' : World) : Prop :=
  ∃ x, e = .returned (.bool x) ∧ (q = r → x = true) ∧ Qat w' qb (q.next K B P) ∧ Rat w' wb (r.next K B P) ∧ Only (fun k => k = qb ∨ k = wb) w w'

set_option maxHeartbeats 1000000 in
theorem done_ok1 (qb wb : Nat) (q r : QS) (B P : Int) (w : World) (hq : Qat w qb q) (hr : Rat w wb r) (hqw : q.wf) (hrw : r.wf) (hne : qb ≠ wb) (hok : okS B P = true) :
    Calls Try.prog 20 #[.pointer (some ⟨qb, 0, none⟩), .pointer (some ⟨wb, 0, none⟩), .agg #[.int .i64 1, .int .i64 B, .int .i64 P]] w (DonePost w qb wb q r 1 B P) := by
  have l1 := Lib.hid (fun w => lawOf_yes B P w hok)
  have n1 : q.next 1 B P = q.op 1 B P := by unfold QS.next; rw [if_pos ⟨by omega, hok⟩]
  have n2 : r.next 1 B P = r.op 1 B P := by unfold QS.next; rw [if_pos ⟨by omega, hok⟩]
  have c1 : ∀ W, Qat W qb q → Calls Try.prog 10 #[.pointer (some ⟨qb, 0, none⟩), .complex .f64 (F B) (F P)] W (QPost W qb (q.opE 1 B P) (q.op 1 B P)) := fun W h => reserve_yes qb q B P W hqw hok h
  have c2 : ∀ W, Rat W wb r → Calls Try.prog 30 #[.pointer (some ⟨wb, 0, none⟩), .agg #[.int .i64 B, .int .i64 P]] W (RPost W wb (r.opE 1 B P) (r.op 1 B P)) := fun W h => refReserve_any wb r B P W hrw hok h
  have hE : q = r → q.opE 1 B P = r.opE 1 B P := fun h => by rw [h]
  unfold DonePost
  rw [n1, n2]
  generalize q.opE 1 B P = E1 at c1 hE
  generalize r.opE 1 B P = E2 at c2 hE
  generalize q.op 1 B P = q' at c1
  generalize r.op 1 B P = r' at c2
  replace c1 := Lib.hid c1
  replace c2 := Lib.hid c2
  have hql := hq.cells.2.2
  have hrl := hr.cells.2.2
  clear n1 n2 hqw hrw hok
  go_enter Try.func20, Try.ntmps20
  go_wp2_with fail
  refine (l1.out _).mono ?_; rintro e w1 ⟨rfl, hb1⟩
  have y0 : (w1.alloc (.cells #[.int .i64 B, .int .i64 P] 27)).cell? ⟨w.heap.size, 0, none⟩ = some (.int .i64 1) := keep_alloc (keep_b hb1 (new_cell rfl))
  have hB1 : Below w.heap.size w (w1.alloc (.cells #[.int .i64 B, .int .i64 P] 27)) := below_alloc (by have := hb1.size; simp at this; omega) (below_s (below_alloc (Nat.le_refl _) (Below.refl _ _)) hb1)
  have t0 : (w1.alloc (.cells #[.int .i64 B, .int .i64 P] 27)).cell? ⟨w1.heap.size, 0, none⟩ = some (.int .i64 B) := new_cell rfl
  have t1 : (w1.alloc (.cells #[.int .i64 B, .int .i64 P] 27)).cell? ⟨w1.heap.size, 1, none⟩ = some (.int .i64 P) := new_cell rfl
  have hsz : w.heap.size < w1.heap.size := by have := hb1.size; simp at this; omega
  clear hb1
  go_wp2_with fail
  refine (c1.out _ (hq.below hB1)).mono ?_; rintro e w2 ⟨rfl, hQ2, ho2⟩
  have t0 := ho2.cell t0 (fun (h : w1.heap.size = qb) => by omega)
  have t1 := ho2.cell t1 (fun (h : w1.heap.size = qb) => by omega)
  have hR2 : Rat w2 wb r := (hr.below hB1).only ho2 (fun h => hne h.symm)
  have hO : Only (fun k => k = qb ∨ k = wb) w w2 := (Only.of_below2 (bs := fun k => k = qb ∨ k = wb) hB1).seq ho2 (fun _ _ h => Or.inl h)
  clear ho2 hq hr hB1
  go_wp2_with fail
  refine (c2.out _ hR2).mono ?_; rintro e w3 ⟨rfl, hR3, ho3⟩
  have hQ3 : Qat w3 qb q' := hQ2.only ho3 hne
  have hO3 := hO.seq ho3 (fun _ _ h => Or.inr h)
  go_wp2_with fail
  go_ret
  exact ⟨_, rfl, fun h => by simp [hE h], hQ3, hR3, hO3⟩

set_option maxHeartbeats 1000000 in
theorem done_ok2 (qb wb : Nat) (q r : QS) (B P : Int) (w : World) (hq : Qat w qb q) (hr : Rat w wb r) (hqw : q.wf) (hrw : r.wf) (hne : qb ≠ wb) (hok : okS B P = true) :
    Calls Try.prog 20 #[.pointer (some ⟨qb, 0, none⟩), .pointer (some ⟨wb, 0, none⟩), .agg #[.int .i64 2, .int .i64 B, .int .i64 P]] w (DonePost w qb wb q r 2 B P) := by
  have l1 := Lib.hid (fun w => lawOf_yes B P w hok)
  have n1 : q.next 2 B P = q.op 2 B P := by unfold QS.next; rw [if_pos ⟨by omega, hok⟩]
  have n2 : r.next 2 B P = r.op 2 B P := by unfold QS.next; rw [if_pos ⟨by omega, hok⟩]
  have c1 : ∀ W, Qat W qb q → Calls Try.prog 11 #[.pointer (some ⟨qb, 0, none⟩), .complex .f64 (F B) (F P)] W (QPost W qb (q.opE 2 B P) (q.op 2 B P)) := fun W h => commit_yes qb q B P W hqw hok h
  have c2 : ∀ W, Rat W wb r → Calls Try.prog 31 #[.pointer (some ⟨wb, 0, none⟩), .agg #[.int .i64 B, .int .i64 P]] W (RPost W wb (r.opE 2 B P) (r.op 2 B P)) := fun W h => refCommit_any wb r B P W hrw hok h
  have hE : q = r → q.opE 2 B P = r.opE 2 B P := fun h => by rw [h]
  unfold DonePost
  rw [n1, n2]
  generalize q.opE 2 B P = E1 at c1 hE
  generalize r.opE 2 B P = E2 at c2 hE
  generalize q.op 2 B P = q' at c1
  generalize r.op 2 B P = r' at c2
  replace c1 := Lib.hid c1
  replace c2 := Lib.hid c2
  have hql := hq.cells.2.2
  have hrl := hr.cells.2.2
  clear n1 n2 hqw hrw hok
  go_enter Try.func20, Try.ntmps20
  go_wp2_with fail
  refine (l1.out _).mono ?_; rintro e w1 ⟨rfl, hb1⟩
  have y0 : (w1.alloc (.cells #[.int .i64 B, .int .i64 P] 27)).cell? ⟨w.heap.size, 0, none⟩ = some (.int .i64 2) := keep_alloc (keep_b hb1 (new_cell rfl))
  have hB1 : Below w.heap.size w (w1.alloc (.cells #[.int .i64 B, .int .i64 P] 27)) := below_alloc (by have := hb1.size; simp at this; omega) (below_s (below_alloc (Nat.le_refl _) (Below.refl _ _)) hb1)
  have t0 : (w1.alloc (.cells #[.int .i64 B, .int .i64 P] 27)).cell? ⟨w1.heap.size, 0, none⟩ = some (.int .i64 B) := new_cell rfl
  have t1 : (w1.alloc (.cells #[.int .i64 B, .int .i64 P] 27)).cell? ⟨w1.heap.size, 1, none⟩ = some (.int .i64 P) := new_cell rfl
  have hsz : w.heap.size < w1.heap.size := by have := hb1.size; simp at this; omega
  clear hb1
  go_wp2_with fail
  refine (c1.out _ (hq.below hB1)).mono ?_; rintro e w2 ⟨rfl, hQ2, ho2⟩
  have t0 := ho2.cell t0 (fun (h : w1.heap.size = qb) => by omega)
  have t1 := ho2.cell t1 (fun (h : w1.heap.size = qb) => by omega)
  have hR2 : Rat w2 wb r := (hr.below hB1).only ho2 (fun h => hne h.symm)
  have hO : Only (fun k => k = qb ∨ k = wb) w w2 := (Only.of_below2 (bs := fun k => k = qb ∨ k = wb) hB1).seq ho2 (fun _ _ h => Or.inl h)
  clear ho2 hq hr hB1
  go_wp2_with fail
  refine (c2.out _ hR2).mono ?_; rintro e w3 ⟨rfl, hR3, ho3⟩
  have hQ3 : Qat w3 qb q' := hQ2.only ho3 hne
  have hO3 := hO.seq ho3 (fun _ _ h => Or.inr h)
  go_wp2_with fail
  go_ret
  exact ⟨_, rfl, fun h => by simp [hE h], hQ3, hR3, hO3⟩

set_option maxHeartbeats 1000000 in
theorem done_ok3 (qb wb : Nat) (q r : QS) (B P : Int) (w : World) (hq : Qat w qb q) (hr : Rat w wb r) (hqw : q.wf) (hrw : r.wf) (hne : qb ≠ wb) (hok : okS B P = true) :
    Calls Try.prog 20 #[.pointer (some ⟨qb, 0, none⟩), .pointer (some ⟨wb, 0, none⟩), .agg #[.int .i64 3, .int .i64 B, .int .i64 P]] w (DonePost w qb wb q r 3 B P) := by
  have l1 := Lib.hid (fun w => lawOf_yes B P w hok)
  have n1 : q.next 3 B P = q.op 3 B P := by unfold QS.next; rw [if_pos ⟨by omega, hok⟩]
  have n2 : r.next 3 B P = r.op 3 B P := by unfold QS.next; rw [if_pos ⟨by omega, hok⟩]
  have c1 : ∀ W, Qat W qb q → Calls Try.prog 15 #[.pointer (some ⟨qb, 0, none⟩), .complex .f64 (F B) (F P)] W (QPost W qb (q.opE 3 B P) (q.op 3 B P)) := fun W h => cancel_yes qb q B P W hqw hok h
  have c2 : ∀ W, Rat W wb r → Calls Try.prog 32 #[.pointer (some ⟨wb, 0, none⟩), .agg #[.int .i64 B, .int .i64 P]] W (RPost W wb (r.opE 3 B P) (r.op 3 B P)) := fun W h => refCancel_any wb r B P W hrw hok h
  have hE : q = r → q.opE 3 B P = r.opE 3 B P := fun h => by rw [h]
  unfold DonePost
  rw [n1, n2]
  generalize q.opE 3 B P = E1 at c1 hE
  generalize r.opE 3 B P = E2 at c2 hE
  generalize q.op 3 B P = q' at c1
  generalize r.op 3 B P = r' at c2
  replace c1 := Lib.hid c1
  replace c2 := Lib.hid c2
  have hql := hq.cells.2.2
  have hrl := hr.cells.2.2
  clear n1 n2 hqw hrw hok
  go_enter Try.func20, Try.ntmps20
  go_wp2_with fail
  refine (l1.out _).mono ?_; rintro e w1 ⟨rfl, hb1⟩
  have y0 : (w1.alloc (.cells #[.int .i64 B, .int .i64 P] 27)).cell? ⟨w.heap.size, 0, none⟩ = some (.int .i64 3) := keep_alloc (keep_b hb1 (new_cell rfl))
  have hB1 : Below w.heap.size w (w1.alloc (.cells #[.int .i64 B, .int .i64 P] 27)) := below_alloc (by have := hb1.size; simp at this; omega) (below_s (below_alloc (Nat.le_refl _) (Below.refl _ _)) hb1)
  have t0 : (w1.alloc (.cells #[.int .i64 B, .int .i64 P] 27)).cell? ⟨w1.heap.size, 0, none⟩ = some (.int .i64 B) := new_cell rfl
  have t1 : (w1.alloc (.cells #[.int .i64 B, .int .i64 P] 27)).cell? ⟨w1.heap.size, 1, none⟩ = some (.int .i64 P) := new_cell rfl
  have hsz : w.heap.size < w1.heap.size := by have := hb1.size; simp at this; omega
  clear hb1
  go_wp2_with fail
  refine (c1.out _ (hq.below hB1)).mono ?_; rintro e w2 ⟨rfl, hQ2, ho2⟩
  have t0 := ho2.cell t0 (fun (h : w1.heap.size = qb) => by omega)
  have t1 := ho2.cell t1 (fun (h : w1.heap.size = qb) => by omega)
  have hR2 : Rat w2 wb r := (hr.below hB1).only ho2 (fun h => hne h.symm)
  have hO : Only (fun k => k = qb ∨ k = wb) w w2 := (Only.of_below2 (bs := fun k => k = qb ∨ k = wb) hB1).seq ho2 (fun _ _ h => Or.inl h)
  clear ho2 hq hr hB1
  go_wp2_with fail
  refine (c2.out _ hR2).mono ?_; rintro e w3 ⟨rfl, hR3, ho3⟩
  have hQ3 : Qat w3 qb q' := hQ2.only ho3 hne
  have hO3 := hO.seq ho3 (fun _ _ h => Or.inr h)
  go_wp2_with fail
  go_ret
  exact ⟨_, rfl, fun h => by simp [hE h], hQ3, hR3, hO3⟩

set_option maxHeartbeats 1000000 in
theorem done_ok4 (qb wb : Nat) (q r : QS) (B P : Int) (w : World) (hq : Qat w qb q) (hr : Rat w wb r) (hqw : q.wf) (hrw : r.wf) (hne : qb ≠ wb) (hok : okS B P = true) :
    Calls Try.prog 20 #[.pointer (some ⟨qb, 0, none⟩), .pointer (some ⟨wb, 0, none⟩), .agg #[.int .i64 4, .int .i64 B, .int .i64 P]] w (DonePost w qb wb q r 4 B P) := by
  have l1 := Lib.hid (fun w => lawOf_yes B P w hok)
  have n1 : q.next 4 B P = q.op 4 B P := by unfold QS.next; rw [if_pos ⟨by omega, hok⟩]
  have n2 : r.next 4 B P = r.op 4 B P := by unfold QS.next; rw [if_pos ⟨by omega, hok⟩]
  have c1 : ∀ W, Qat W qb q → Calls Try.prog 14 #[.pointer (some ⟨qb, 0, none⟩), .complex .f64 (F B) (F P)] W (QPost W qb (q.opE 4 B P) (q.op 4 B P)) := fun W h => refund_yes qb q B P W hqw hok h
  have c2 : ∀ W, Rat W wb r → Calls Try.prog 33 #[.pointer (some ⟨wb, 0, none⟩), .agg #[.int .i64 B, .int .i64 P]] W (RPost W wb (r.opE 4 B P) (r.op 4 B P)) := fun W h => refRefund_any wb r B P W hrw hok h
  have hE : q = r → q.opE 4 B P = r.opE 4 B P := fun h => by rw [h]
  unfold DonePost
  rw [n1, n2]
  generalize q.opE 4 B P = E1 at c1 hE
  generalize r.opE 4 B P = E2 at c2 hE
  generalize q.op 4 B P = q' at c1
  generalize r.op 4 B P = r' at c2
  replace c1 := Lib.hid c1
  replace c2 := Lib.hid c2
  have hql := hq.cells.2.2
  have hrl := hr.cells.2.2
  clear n1 n2 hqw hrw hok
  go_enter Try.func20, Try.ntmps20
  go_wp2_with fail
  refine (l1.out _).mono ?_; rintro e w1 ⟨rfl, hb1⟩
  have y0 : (w1.alloc (.cells #[.int .i64 B, .int .i64 P] 27)).cell? ⟨w.heap.size, 0, none⟩ = some (.int .i64 4) := keep_alloc (keep_b hb1 (new_cell rfl))
  have hB1 : Below w.heap.size w (w1.alloc (.cells #[.int .i64 B, .int .i64 P] 27)) := below_alloc (by have := hb1.size; simp at this; omega) (below_s (below_alloc (Nat.le_refl _) (Below.refl _ _)) hb1)
  have t0 : (w1.alloc (.cells #[.int .i64 B, .int .i64 P] 27)).cell? ⟨w1.heap.size, 0, none⟩ = some (.int .i64 B) := new_cell rfl
  have t1 : (w1.alloc (.cells #[.int .i64 B, .int .i64 P] 27)).cell? ⟨w1.heap.size, 1, none⟩ = some (.int .i64 P) := new_cell rfl
  have hsz : w.heap.size < w1.heap.size := by have := hb1.size; simp at this; omega
  clear hb1
  go_wp2_with fail
  refine (c1.out _ (hq.below hB1)).mono ?_; rintro e w2 ⟨rfl, hQ2, ho2⟩
  have t0 := ho2.cell t0 (fun (h : w1.heap.size = qb) => by omega)
  have t1 := ho2.cell t1 (fun (h : w1.heap.size = qb) => by omega)
  have hR2 : Rat w2 wb r := (hr.below hB1).only ho2 (fun h => hne h.symm)
  have hO : Only (fun k => k = qb ∨ k = wb) w w2 := (Only.of_below2 (bs := fun k => k = qb ∨ k = wb) hB1).seq ho2 (fun _ _ h => Or.inl h)
  clear ho2 hq hr hB1
  go_wp2_with fail
  refine (c2.out _ hR2).mono ?_; rintro e w3 ⟨rfl, hR3, ho3⟩
  have hQ3 : Qat w3 qb q' := hQ2.only ho3 hne
  have hO3 := hO.seq ho3 (fun _ _ h => Or.inr h)
  go_wp2_with fail
  go_ret
  exact ⟨_, rfl, fun h => by simp [hE h], hQ3, hR3, hO3⟩

set_option maxHeartbeats 1000000 in
theorem done_ok5 (qb wb : Nat) (q r : QS) (B P : Int) (w : World) (hq : Qat w qb q) (hr : Rat w wb r) (hqw : q.wf) (hrw : r.wf) (hne : qb ≠ wb) (hok : okS B P = true) :
    Calls Try.prog 20 #[.pointer (some ⟨qb, 0, none⟩), .pointer (some ⟨wb, 0, none⟩), .agg #[.int .i64 5, .int .i64 B, .int .i64 P]] w (DonePost w qb wb q r 5 B P) := by
  have l1 := Lib.hid (fun w => lawOf_yes B P w hok)
  have n1 : q.next 5 B P = q.op 5 B P := by unfold QS.next; rw [if_pos ⟨by omega, hok⟩]
  have n2 : r.next 5 B P = r.op 5 B P := by unfold QS.next; rw [if_pos ⟨by omega, hok⟩]
  have c1 : ∀ W, Qat W qb q → Calls Try.prog 16 #[.pointer (some ⟨qb, 0, none⟩), .complex .f64 (F B) (F P)] W (QPost W qb (q.opE 5 B P) (q.op 5 B P)) := fun W h => resize_yes qb q B P W hqw hok h
  have c2 : ∀ W, Rat W wb r → Calls Try.prog 34 #[.pointer (some ⟨wb, 0, none⟩), .agg #[.int .i64 B, .int .i64 P]] W (RPost W wb (r.opE 5 B P) (r.op 5 B P)) := fun W h => refResize_any wb r B P W hrw hok h
  have hE : q = r → q.opE 5 B P = r.opE 5 B P := fun h => by rw [h]
  unfold DonePost
  rw [n1, n2]
  generalize q.opE 5 B P = E1 at c1 hE
  generalize r.opE 5 B P = E2 at c2 hE
  generalize q.op 5 B P = q' at c1
  generalize r.op 5 B P = r' at c2
  replace c1 := Lib.hid c1
  replace c2 := Lib.hid c2
  have hql := hq.cells.2.2
  have hrl := hr.cells.2.2
  clear n1 n2 hqw hrw hok
  go_enter Try.func20, Try.ntmps20
  go_wp2_with fail
  refine (l1.out _).mono ?_; rintro e w1 ⟨rfl, hb1⟩
  have y0 : (w1.alloc (.cells #[.int .i64 B, .int .i64 P] 27)).cell? ⟨w.heap.size, 0, none⟩ = some (.int .i64 5) := keep_alloc (keep_b hb1 (new_cell rfl))
  have hB1 : Below w.heap.size w (w1.alloc (.cells #[.int .i64 B, .int .i64 P] 27)) := below_alloc (by have := hb1.size; simp at this; omega) (below_s (below_alloc (Nat.le_refl _) (Below.refl _ _)) hb1)
  have t0 : (w1.alloc (.cells #[.int .i64 B, .int .i64 P] 27)).cell? ⟨w1.heap.size, 0, none⟩ = some (.int .i64 B) := new_cell rfl
  have t1 : (w1.alloc (.cells #[.int .i64 B, .int .i64 P] 27)).cell? ⟨w1.heap.size, 1, none⟩ = some (.int .i64 P) := new_cell rfl
  have hsz : w.heap.size < w1.heap.size := by have := hb1.size; simp at this; omega
  clear hb1
  go_wp2_with fail
  refine (c1.out _ (hq.below hB1)).mono ?_; rintro e w2 ⟨rfl, hQ2, ho2⟩
  have t0 := ho2.cell t0 (fun (h : w1.heap.size = qb) => by omega)
  have t1 := ho2.cell t1 (fun (h : w1.heap.size = qb) => by omega)
  have hR2 : Rat w2 wb r := (hr.below hB1).only ho2 (fun h => hne h.symm)
  have hO : Only (fun k => k = qb ∨ k = wb) w w2 := (Only.of_below2 (bs := fun k => k = qb ∨ k = wb) hB1).seq ho2 (fun _ _ h => Or.inl h)
  clear ho2 hq hr hB1
  go_wp2_with fail
  refine (c2.out _ hR2).mono ?_; rintro e w3 ⟨rfl, hR3, ho3⟩
  have hQ3 : Qat w3 qb q' := hQ2.only ho3 hne
  have hO3 := hO.seq ho3 (fun _ _ h => Or.inr h)
  go_wp2_with fail
  go_ret
  exact ⟨_, rfl, fun h => by simp [hE h], hQ3, hR3, hO3⟩

set_option maxHeartbeats 1000000 in
theorem done_bad1 (qb wb : Nat) (q r : QS) (B P : Int) (w : World) (hq : Qat w qb q) (hr : Rat w wb r) (hne : qb ≠ wb) (hok : okS B P = false) :
    Calls Try.prog 20 #[.pointer (some ⟨qb, 0, none⟩), .pointer (some ⟨wb, 0, none⟩), .agg #[.int .i64 1, .int .i64 B, .int .i64 P]] w (DonePost w qb wb q r 1 B P) := by
  have l1 := Lib.hid (fun w => lawOf_no B P w hok)
  have c1 := Lib.hid (fun W (h : Qat W qb q) => (bad_any qb q (-1) 0 W (by decide) (by decide) h (ok_not (by omega))).1)
  unfold DonePost
  rw [show q.next 1 B P = q by unfold QS.next; rw [if_neg (fun h => by rw [hok] at h; cases h.2)], show r.next 1 B P = r by unfold QS.next; rw [if_neg (fun h => by rw [hok] at h; cases h.2)]]
  clear hok
  go_enter Try.func20, Try.ntmps20
  go_wp2_with fail
  refine (l1.out _).mono ?_; rintro e w1 ⟨rfl, hb1⟩
  have y0 : (w1.alloc (.cells #[.int .i64 0, .int .i64 0] 27)).cell? ⟨w.heap.size, 0, none⟩ = some (.int .i64 1) := keep_alloc (keep_b hb1 (new_cell rfl))
  have hB1 : Below w.heap.size w (w1.alloc (.cells #[.int .i64 0, .int .i64 0] 27)) := below_alloc (by have := hb1.size; simp at this; omega) (below_s (below_alloc (Nat.le_refl _) (Below.refl _ _)) hb1)
  clear hb1
  have hQ2 := hq.below hB1
  have hR2 := hr.below hB1
  clear hq hr
  go_wp2_with fail
  refine (c1.out _ hQ2).mono ?_; rintro e w2 ⟨rfl, hQ3, ho2⟩
  have hR3 : Rat w2 wb r := hR2.only ho2 (fun h => hne h.symm)
  have hO : Only (fun k => k = qb ∨ k = wb) w w2 := (Only.of_below2 (bs := fun k => k = qb ∨ k = wb) hB1).seq ho2 (fun _ _ h => Or.inl h)
  clear ho2 hQ2 hR2 hB1
  go_wp2_with fail
  go_ret
  exact ⟨_, rfl, fun _ => rfl, hQ3, hR3, hO⟩

set_option maxHeartbeats 1000000 in
theorem done_bad2 (qb wb : Nat) (q r : QS) (B P : Int) (w : World) (hq : Qat w qb q) (hr : Rat w wb r) (hne : qb ≠ wb) (hok : okS B P = false) :
    Calls Try.prog 20 #[.pointer (some ⟨qb, 0, none⟩), .pointer (some ⟨wb, 0, none⟩), .agg #[.int .i64 2, .int .i64 B, .int .i64 P]] w (DonePost w qb wb q r 2 B P) := by
  have l1 := Lib.hid (fun w => lawOf_no B P w hok)
  have c1 := Lib.hid (fun W (h : Qat W qb q) => (bad_any qb q (-1) 0 W (by decide) (by decide) h (ok_not (by omega))).2.1)
  unfold DonePost
  rw [show q.next 2 B P = q by unfold QS.next; rw [if_neg (fun h => by rw [hok] at h; cases h.2)], show r.next 2 B P = r by unfold QS.next; rw [if_neg (fun h => by rw [hok] at h; cases h.2)]]
  clear hok
  go_enter Try.func20, Try.ntmps20
  go_wp2_with fail
  refine (l1.out _).mono ?_; rintro e w1 ⟨rfl, hb1⟩
  have y0 : (w1.alloc (.cells #[.int .i64 0, .int .i64 0] 27)).cell? ⟨w.heap.size, 0, none⟩ = some (.int .i64 2) := keep_alloc (keep_b hb1 (new_cell rfl))
  have hB1 : Below w.heap.size w (w1.alloc (.cells #[.int .i64 0, .int .i64 0] 27)) := below_alloc (by have := hb1.size; simp at this; omega) (below_s (below_alloc (Nat.le_refl _) (Below.refl _ _)) hb1)
  clear hb1
  have hQ2 := hq.below hB1
  have hR2 := hr.below hB1
  clear hq hr
  go_wp2_with fail
  refine (c1.out _ hQ2).mono ?_; rintro e w2 ⟨rfl, hQ3, ho2⟩
  have hR3 : Rat w2 wb r := hR2.only ho2 (fun h => hne h.symm)
  have hO : Only (fun k => k = qb ∨ k = wb) w w2 := (Only.of_below2 (bs := fun k => k = qb ∨ k = wb) hB1).seq ho2 (fun _ _ h => Or.inl h)
  clear ho2 hQ2 hR2 hB1
  go_wp2_with fail
  go_ret
  exact ⟨_, rfl, fun _ => rfl, hQ3, hR3, hO⟩

set_option maxHeartbeats 1000000 in
theorem done_bad3 (qb wb : Nat) (q r : QS) (B P : Int) (w : World) (hq : Qat w qb q) (hr : Rat w wb r) (hne : qb ≠ wb) (hok : okS B P = false) :
    Calls Try.prog 20 #[.pointer (some ⟨qb, 0, none⟩), .pointer (some ⟨wb, 0, none⟩), .agg #[.int .i64 3, .int .i64 B, .int .i64 P]] w (DonePost w qb wb q r 3 B P) := by
  have l1 := Lib.hid (fun w => lawOf_no B P w hok)
  have c1 := Lib.hid (fun W (h : Qat W qb q) => (bad_any qb q (-1) 0 W (by decide) (by decide) h (ok_not (by omega))).2.2.1)
  unfold DonePost
  rw [show q.next 3 B P = q by unfold QS.next; rw [if_neg (fun h => by rw [hok] at h; cases h.2)], show r.next 3 B P = r by unfold QS.next; rw [if_neg (fun h => by rw [hok] at h; cases h.2)]]
  clear hok
  go_enter Try.func20, Try.ntmps20
  go_wp2_with fail
  refine (l1.out _).mono ?_; rintro e w1 ⟨rfl, hb1⟩
  have y0 : (w1.alloc (.cells #[.int .i64 0, .int .i64 0] 27)).cell? ⟨w.heap.size, 0, none⟩ = some (.int .i64 3) := keep_alloc (keep_b hb1 (new_cell rfl))
  have hB1 : Below w.heap.size w (w1.alloc (.cells #[.int .i64 0, .int .i64 0] 27)) := below_alloc (by have := hb1.size; simp at this; omega) (below_s (below_alloc (Nat.le_refl _) (Below.refl _ _)) hb1)
  clear hb1
  have hQ2 := hq.below hB1
  have hR2 := hr.below hB1
  clear hq hr
  go_wp2_with fail
  refine (c1.out _ hQ2).mono ?_; rintro e w2 ⟨rfl, hQ3, ho2⟩
  have hR3 : Rat w2 wb r := hR2.only ho2 (fun h => hne h.symm)
  have hO : Only (fun k => k = qb ∨ k = wb) w w2 := (Only.of_below2 (bs := fun k => k = qb ∨ k = wb) hB1).seq ho2 (fun _ _ h => Or.inl h)
  clear ho2 hQ2 hR2 hB1
  go_wp2_with fail
  go_ret
  exact ⟨_, rfl, fun _ => rfl, hQ3, hR3, hO⟩

set_option maxHeartbeats 1000000 in
theorem done_bad4 (qb wb : Nat) (q r : QS) (B P : Int) (w : World) (hq : Qat w qb q) (hr : Rat w wb r) (hne : qb ≠ wb) (hok : okS B P = false) :
    Calls Try.prog 20 #[.pointer (some ⟨qb, 0, none⟩), .pointer (some ⟨wb, 0, none⟩), .agg #[.int .i64 4, .int .i64 B, .int .i64 P]] w (DonePost w qb wb q r 4 B P) := by
  have l1 := Lib.hid (fun w => lawOf_no B P w hok)
  have c1 := Lib.hid (fun W (h : Qat W qb q) => (bad_any qb q (-1) 0 W (by decide) (by decide) h (ok_not (by omega))).2.2.2.1)
  unfold DonePost
  rw [show q.next 4 B P = q by unfold QS.next; rw [if_neg (fun h => by rw [hok] at h; cases h.2)], show r.next 4 B P = r by unfold QS.next; rw [if_neg (fun h => by rw [hok] at h; cases h.2)]]
  clear hok
  go_enter Try.func20, Try.ntmps20
  go_wp2_with fail
  refine (l1.out _).mono ?_; rintro e w1 ⟨rfl, hb1⟩
  have y0 : (w1.alloc (.cells #[.int .i64 0, .int .i64 0] 27)).cell? ⟨w.heap.size, 0, none⟩ = some (.int .i64 4) := keep_alloc (keep_b hb1 (new_cell rfl))
  have hB1 : Below w.heap.size w (w1.alloc (.cells #[.int .i64 0, .int .i64 0] 27)) := below_alloc (by have := hb1.size; simp at this; omega) (below_s (below_alloc (Nat.le_refl _) (Below.refl _ _)) hb1)
  clear hb1
  have hQ2 := hq.below hB1
  have hR2 := hr.below hB1
  clear hq hr
  go_wp2_with fail
  refine (c1.out _ hQ2).mono ?_; rintro e w2 ⟨rfl, hQ3, ho2⟩
  have hR3 : Rat w2 wb r := hR2.only ho2 (fun h => hne h.symm)
  have hO : Only (fun k => k = qb ∨ k = wb) w w2 := (Only.of_below2 (bs := fun k => k = qb ∨ k = wb) hB1).seq ho2 (fun _ _ h => Or.inl h)
  clear ho2 hQ2 hR2 hB1
  go_wp2_with fail
  go_ret
  exact ⟨_, rfl, fun _ => rfl, hQ3, hR3, hO⟩

set_option maxHeartbeats 1000000 in
theorem done_bad5 (qb wb : Nat) (q r : QS) (B P : Int) (w : World) (hq : Qat w qb q) (hr : Rat w wb r) (hne : qb ≠ wb) (hok : okS B P = false) :
    Calls Try.prog 20 #[.pointer (some ⟨qb, 0, none⟩), .pointer (some ⟨wb, 0, none⟩), .agg #[.int .i64 5, .int .i64 B, .int .i64 P]] w (DonePost w qb wb q r 5 B P) := by
  have l1 := Lib.hid (fun w => lawOf_no B P w hok)
  have c1 := Lib.hid (fun W (h : Qat W qb q) => (bad_any qb q (-1) 0 W (by decide) (by decide) h (ok_not (by omega))).2.2.2.2)
  unfold DonePost
  rw [show q.next 5 B P = q by unfold QS.next; rw [if_neg (fun h => by rw [hok] at h; cases h.2)], show r.next 5 B P = r by unfold QS.next; rw [if_neg (fun h => by rw [hok] at h; cases h.2)]]
  clear hok
  go_enter Try.func20, Try.ntmps20
  go_wp2_with fail
  refine (l1.out _).mono ?_; rintro e w1 ⟨rfl, hb1⟩
  have y0 : (w1.alloc (.cells #[.int .i64 0, .int .i64 0] 27)).cell? ⟨w.heap.size, 0, none⟩ = some (.int .i64 5) := keep_alloc (keep_b hb1 (new_cell rfl))
  have hB1 : Below w.heap.size w (w1.alloc (.cells #[.int .i64 0, .int .i64 0] 27)) := below_alloc (by have := hb1.size; simp at this; omega) (below_s (below_alloc (Nat.le_refl _) (Below.refl _ _)) hb1)
  clear hb1
  have hQ2 := hq.below hB1
  have hR2 := hr.below hB1
  clear hq hr
  go_wp2_with fail
  refine (c1.out _ hQ2).mono ?_; rintro e w2 ⟨rfl, hQ3, ho2⟩
  have hR3 : Rat w2 wb r := hR2.only ho2 (fun h => hne h.symm)
  have hO : Only (fun k => k = qb ∨ k = wb) w w2 := (Only.of_below2 (bs := fun k => k = qb ∨ k = wb) hB1).seq ho2 (fun _ _ h => Or.inl h)
  clear ho2 hQ2 hR2 hB1
  go_wp2_with fail
  go_ret
  exact ⟨_, rfl, fun _ => rfl, hQ3, hR3, hO⟩

set_option maxHeartbeats 1000000 in
theorem done_defyes (qb wb : Nat) (q r : QS) (K B P : Int) (w : World) (hq : Qat w qb q) (hr : Rat w wb r) (hok : okS B P = true) (k1 : K ≠ 1) (k2 : K ≠ 2) (k3 : K ≠ 3) (k4 : K ≠ 4) (k5 : K ≠ 5) :
    Calls Try.prog 20 #[.pointer (some ⟨qb, 0, none⟩), .pointer (some ⟨wb, 0, none⟩), .agg #[.int .i64 K, .int .i64 B, .int .i64 P]] w (DonePost w qb wb q r K B P) := by
  have l1 := Lib.hid (fun w => lawOf_yes B P w hok)
  unfold DonePost
  rw [show q.next K B P = q by unfold QS.next; rw [if_neg (fun h => by omega)], show r.next K B P = r by unfold QS.next; rw [if_neg (fun h => by omega)]]
  clear hok
  go_enter Try.func20, Try.ntmps20
  go_wp2_with fail
  refine (l1.out _).mono ?_; rintro e w1 ⟨rfl, hb1⟩
  have y0 : (w1.alloc (.cells #[.int .i64 B, .int .i64 P] 27)).cell? ⟨w.heap.size, 0, none⟩ = some (.int .i64 K) := keep_alloc (keep_b hb1 (new_cell rfl))
  have hB1 : Below w.heap.size w (w1.alloc (.cells #[.int .i64 B, .int .i64 P] 27)) := below_alloc (by have := hb1.size; simp at this; omega) (below_s (below_alloc (Nat.le_refl _) (Below.refl _ _)) hb1)
  clear hb1
  go_wp2_with fail
  go_ret
  exact ⟨_, rfl, fun _ => rfl, hq.below hB1, hr.below hB1, Only.of_below2 (bs := fun k => k = qb ∨ k = wb) hB1⟩

set_option maxHeartbeats 1000000 in
theorem done_defno (qb wb : Nat) (q r : QS) (K B P : Int) (w : World) (hq : Qat w qb q) (hr : Rat w wb r) (hok : okS B P = false) (k1 : K ≠ 1) (k2 : K ≠ 2) (k3 : K ≠ 3) (k4 : K ≠ 4) (k5 : K ≠ 5) :
    Calls Try.prog 20 #[.pointer (some ⟨qb, 0, none⟩), .pointer (some ⟨wb, 0, none⟩), .agg #[.int .i64 K, .int .i64 B, .int .i64 P]] w (DonePost w qb wb q r K B P) := by
  have l1 := Lib.hid (fun w => lawOf_no B P w hok)
  unfold DonePost
  rw [show q.next K B P = q by unfold QS.next; rw [if_neg (fun h => by omega)], show r.next K B P = r by unfold QS.next; rw [if_neg (fun h => by omega)]]
  clear hok
  go_enter Try.func20, Try.ntmps20
  go_wp2_with fail
  refine (l1.out _).mono ?_; rintro e w1 ⟨rfl, hb1⟩
  have y0 : (w1.alloc (.cells #[.int .i64 0, .int .i64 0] 27)).cell? ⟨w.heap.size, 0, none⟩ = some (.int .i64 K) := keep_alloc (keep_b hb1 (new_cell rfl))
  have hB1 : Below w.heap.size w (w1.alloc (.cells #[.int .i64 0, .int .i64 0] 27)) := below_alloc (by have := hb1.size; simp at this; omega) (below_s (below_alloc (Nat.le_refl _) (Below.refl _ _)) hb1)
  clear hb1
  go_wp2_with fail
  go_ret
  exact ⟨_, rfl, fun _ => rfl, hq.below hB1, hr.below hB1, Only.of_below2 (bs := fun k => k = qb ∨ k = wb) hB1⟩

theorem done_any (qb wb : Nat) (q r : QS) (K B P : Int) (w : World) (hq : Qat w qb q) (hr : Rat w wb r) (hqw : q.wf) (hrw : r.wf) (hne : qb ≠ wb) :
    Calls Try.prog 20 #[.pointer (some ⟨qb, 0, none⟩), .pointer (some ⟨wb, 0, none⟩), .agg #[.int .i64 K, .int .i64 B, .int .i64 P]] w (DonePost w qb wb q r K B P) := by
  by_cases hk : 1 ≤ K ∧ K ≤ 5
  · cases hok : okS B P with
    | true =>
      rcases (by omega : K = 1 ∨ K = 2 ∨ K = 3 ∨ K = 4 ∨ K = 5) with rfl | rfl | rfl | rfl | rfl
      · exact done_ok1 qb wb q r B P w hq hr hqw hrw hne hok
      · exact done_ok2 qb wb q r B P w hq hr hqw hrw hne hok
      · exact done_ok3 qb wb q r B P w hq hr hqw hrw hne hok
      · exact done_ok4 qb wb q r B P w hq hr hqw hrw hne hok
      · exact done_ok5 qb wb q r B P w hq hr hqw hrw hne hok
    | false =>
      rcases (by omega : K = 1 ∨ K = 2 ∨ K = 3 ∨ K = 4 ∨ K = 5) with rfl | rfl | rfl | rfl | rfl
      · exact done_bad1 qb wb q r B P w hq hr hne hok
      · exact done_bad2 qb wb q r B P w hq hr hne hok
      · exact done_bad3 qb wb q r B P w hq hr hne hok
      · exact done_bad4 qb wb q r B P w hq hr hne hok
      · exact done_bad5 qb wb q r B P w hq hr hne hok
  · cases hok : okS B P with
    | true => exact done_defyes qb wb q r K B P w hq hr hok (by omega) (by omega) (by omega) (by omega) (by omega)
    | false => exact done_defno qb wb q r K B P w hq hr hok (by omega) (by omega) (by omega) (by omega) (by omega)

end Go.Proofs.Ytmgcaljaaemoaaa
