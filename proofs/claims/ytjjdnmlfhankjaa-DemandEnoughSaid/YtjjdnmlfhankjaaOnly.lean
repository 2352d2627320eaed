/- Of the blocks that were there, only some have turned; and small lemmas on rows of ints that the call owns. No program here. -/
import Derived.Test.YtjjdnmlfhankjaaMore
import Derived.Laws.OwnMore
import Derived.OneCell
namespace Go.Proofs.Ytjjdnmlfhankjaa
open Go.RowKit

structure Only (bs : Nat → Prop) (w w' : World) : Prop where
  os : w'.os = w.os
  tape : w'.tape = w.tape
  output : w'.output = w.output
  size : w.heap.size ≤ w'.heap.size
  block : ∀ k, k < w.heap.size → ¬ bs k → w'.heap[k]? = w.heap[k]?

namespace Only
variable {bs cs : Nat → Prop} {a w w' : World}
theorem refl (bs : Nat → Prop) (w : World) : Only bs w w := ⟨rfl, rfl, rfl, Nat.le_refl _, fun _ _ _ => rfl⟩
theorem trans (h : Only bs a w) (k : Only bs w w') : Only bs a w' :=
  ⟨k.os.trans h.os, k.tape.trans h.tape, k.output.trans h.output, Nat.le_trans h.size k.size, fun i hi hb => (k.block i (Nat.lt_of_lt_of_le hi h.size) hb).trans (h.block i hi hb)⟩
theorem mono (h : Only bs a w) (hb : ∀ k, k < a.heap.size → bs k → cs k) : Only cs a w := ⟨h.os, h.tape, h.output, h.size, fun k hk hn => h.block k hk (fun q => hn (hb k hk q))⟩
/-- Two steps; what the second one may turn is old and listed, or new. -/
theorem seq (h : Only bs a w) (k : Only cs w w') (hb : ∀ i, i < a.heap.size → cs i → bs i) : Only bs a w' :=
  ⟨k.os.trans h.os, k.tape.trans h.tape, k.output.trans h.output, Nat.le_trans h.size k.size, fun i hi hn => (k.block i (Nat.lt_of_lt_of_le hi h.size) (fun q => hn (hb i hi q))).trans (h.block i hi hn)⟩
theorem alloc (h : Only bs a w) (o : Obj) : Only bs a (w.alloc o) :=
  ⟨h.os, h.tape, h.output, by have := h.size; simp; omega, fun k hk hn => (heap_alloc_old w o k (Nat.lt_of_lt_of_le hk h.size)).trans (h.block k hk hn)⟩
theorem drew (h : Only bs a w) : Only bs a w.drew := ⟨h.os, h.tape, h.output, h.size, h.block⟩
theorem drewN (h : Only bs a w) (n : Nat) : Only bs a (w.drewN n) := by
  induction n with
  | zero => exact h
  | succ n ih => exact ih.drew
theorem setCell (h : Only bs a w) {p : Addr} (hp : p.block < a.heap.size → bs p.block) (u : Value) : Only bs a (w.setCell p u) :=
  ⟨h.os, h.tape, h.output, by simpa [World.setCell] using h.size, fun k hk hn => by
    rw [Below.heap_setCell _ _ _ _ (by rintro rfl; exact hn (hp hk))]
    exact h.block k hk hn⟩
theorem grown {row : Option Nat} (h : Only bs a w) (hg : w.grownBy w' row) (hr : ∀ k, row = some k → k < a.heap.size → bs k) : Only bs a w' :=
  h.seq (cs := fun k => row = some k) ⟨hg.os, hg.tape, hg.output, hg.size, fun k hk hn => hg.block k hk (fun e => hn e.symm)⟩ (fun i hi hc => hr i hc hi)
theorem below {B : Nat} (h : Only bs a w) (hB : B ≤ a.heap.size) (hb : ∀ k, k < B → ¬ bs k) : Below B a w := ⟨h.os, h.tape, h.output, h.size, fun k hk => h.block k (Nat.lt_of_lt_of_le hk hB) (hb k hk)⟩
theorem of_below {B : Nat} (h : Below B a w) : Only (fun k => B ≤ k) a w := ⟨h.os, h.tape, h.output, h.size, fun k _ hn => h.block k (by omega)⟩
theorem cell (h : Only bs a w) {p : Addr} {v : Value} (hc : a.cell? p = some v) (hn : ¬ bs p.block) : w.cell? p = some v :=
  (World.cell?_of_block (w := a) (h.block p.block (block_lt hc) hn)).trans hc
theorem frozen (h : Only bs a w) {p : Addr} (hp : p.block < a.heap.size) (hn : ¬ bs p.block) : w.frozen? p = a.frozen? p := World.frozen?_of_block (w := a) (h.block p.block hp hn)
theorem owns (h : Only bs a w) {base : Nat} {e : TypeId} {size : Nat} {v : Value} {n : Nat} {xs : List Value} (ho : a.ownsRow base e size v n xs) (hn : ∀ g, v.ownBlock = some g → ¬ bs g) : w.ownsRow base e size v n xs := by
  refine ⟨ho.1, ?_⟩
  rcases ho.2 with q | ⟨g, cap, cur, rfl, hb, hgg, rest⟩
  · exact .inl q
  · refine .inr ⟨g, cap, cur, rfl, hb, ?_, rest⟩
    rw [h.block g (Array.getElem?_eq_some_iff.1 hgg).1 (hn g rfl)]
    exact hgg
end Only

/-- The row of ints: its cells. -/
theorem own_ints {w : World} {base : Nat} {e : TypeId} {g cap n : Nat} {L : List Int} (h : w.ownsRow base e 1 (.slice (some ⟨g, 0, none⟩) n cap) n (L.map (Value.int .i64))) {j : Nat} (hj : j < L.length) :
    w.cell? ⟨g, j, none⟩ = some (.int .i64 L[j]) := by
  have hl : L.length = n := by have := h.1; simpa using this
  rw [h.cellAt j (by omega)]
  simp [hj]

theorem map_set {α β : Type} (f : α → β) (l : List α) (i : Nat) (x : α) : (l.set i x).map f = (l.map f).set i (f x) := by
  rw [List.map_set]
end Go.Proofs.Ytjjdnmlfhankjaa
