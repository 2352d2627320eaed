/- More small lemmas on worlds. -/
import Derived.Test.YtjjdnmlfhankjaaBase
namespace Go.Proofs.Ytjjdnmlfhankjaa
open Go.RowKit

theorem below_s {a W W1 : World} (h : Below a.heap.size a W) (hb : Below W.heap.size W W1) : Below a.heap.size a W1 := h.trans (hb.mono h.size)
theorem keep_b {W W1 : World} {p : Addr} {v : Value} (hb : Below W.heap.size W W1) (h : W.cell? p = some v) : W1.cell? p = some v := keep_below hb (block_lt h) h
theorem new_cell1 {W : World} {o : Obj} {c : Array Value} {t : TypeId} {i : Nat} {v : Value} (h : c[i]? = some v) : ((W.alloc o).alloc (.cells c t)).cell? ⟨W.heap.size + 1, i, none⟩ = some v := by
  have := new_cell (W := W.alloc o) (t := t) h
  rwa [World.size_alloc] at this

end Go.Proofs.Ytjjdnmlfhankjaa
