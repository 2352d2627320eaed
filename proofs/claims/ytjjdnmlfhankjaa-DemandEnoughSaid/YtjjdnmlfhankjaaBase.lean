/- Small lemmas for the frames of rows and for worlds: a row's last step where the world behind the call is known below the old heap's size alone. -/
import Derived.Below
import Derived.ChangeSame
import Derived.RowKit3
import Derived.Deep.Draws
import Derived.Deep.Quiet
import Derived.Tactics
namespace Go.Proofs.Ytjjdnmlfhankjaa
open Go.RowKit Go.WideShapes Go.ChangeShapes

theorem ret_eq {k : IntKind} {a b : Int} (h : a = b) : Ending.returned (.int k a) = .returned (.int k b) := by rw [h]

theorem belowN {B : Nat} {a w : World} (h : Below B a w) (n : Nat) : Below B a (w.drewN n) := by
  induction n with
  | zero => exact h
  | succ n ih => exact ih.drew

theorem grownN {W w : World} (h : Grown W w) (n : Nat) : Grown W (w.drewN n) := by
  induction n with
  | zero => exact h
  | succ n ih => exact ih.drew

/-- All cells and marks below B are as they were. -/
theorem below_reads {B : Nat} {W w1 : World} (hb : Below B W w1) :
    (∀ b o, b < B → w1.cell? ⟨b, o, none⟩ = W.cell? ⟨b, o, none⟩) ∧ (∀ b o, b < B → w1.frozen? ⟨b, o, none⟩ = W.frozen? ⟨b, o, none⟩) :=
  ⟨fun b o h => hb.cell (p := ⟨b, o, none⟩) h, fun b o h => hb.frozen (p := ⟨b, o, none⟩) h⟩

/-- The world at hand under a name of its own: what is known of it is S. -/
theorem wp_name {P : Program} {c : Code} {Q : Exit → Act → World → Prop} {a : Act} {w0 : World} (S : World → Prop) (h : S w0) (k : ∀ W, S W → Code.wp P c Q a W) : Code.wp P c Q a w0 := k w0 h

theorem calls_name {P : Program} {f : FuncId} {args : Array Value} {R : Ending → World → Prop} {w0 : World} (S : World → Prop) (h : S w0) (k : ∀ W, S W → Calls P f args W R) : Calls P f args w0 R := k w0 h

theorem block_lt {W : World} {p : Addr} {v : Value} (h : W.cell? p = some v) : p.block < W.heap.size := by
  rcases Nat.lt_or_ge p.block W.heap.size with hlt | hge
  · exact hlt
  · unfold World.cell? at h
    rw [Array.getElem?_eq_none hge] at h
    simp at h
theorem addr_ne {a b : Addr} (h : a.block ≠ b.block) : a ≠ b := fun e => h (congrArg Addr.block e)

/-! What is known of a cell or a mark, carried over new blocks, draws and stores. The side premise stands first. -/
theorem keep_alloc {W : World} {p : Addr} {v : Value} {o : Obj} (h : W.cell? p = some v) : (W.alloc o).cell? p = some v :=
  (World.cell?_alloc_lt W o p (block_lt h)).trans h
theorem keep_drewN {W : World} {p : Addr} {v : Value} {k : Nat} (h : W.cell? p = some v) : (W.drewN k).cell? p = some v := h
theorem keep_drew {W : World} {p : Addr} {v : Value} (h : W.cell? p = some v) : W.drew.cell? p = some v := h
theorem keep_set {W : World} {p q : Addr} {u v : Value} (hne : q ≠ p) (h : W.cell? p = some v) : (W.setCell q u).cell? p = some v :=
  (World.cell?_setCell_other W q p u hne).trans h
theorem keep_below {B : Nat} {W W1 : World} {p : Addr} {v : Value} (hb : Below B W W1) (hp : p.block < B) (h : W.cell? p = some v) : W1.cell? p = some v := (hb.cell hp).trans h
theorem is_of {W : World} {p : Addr} {v : Value} (h : W.cell? p = some v) : (W.cell? p).isSome = true := by rw [h]; rfl
theorem is_alloc {W : World} {p : Addr} {o : Obj} (h : (W.cell? p).isSome = true) : ((W.alloc o).cell? p).isSome = true := by
  obtain ⟨v, hv⟩ := Option.isSome_iff_exists.1 h
  exact is_of (keep_alloc hv)
theorem is_drewN {W : World} {p : Addr} {k : Nat} (h : (W.cell? p).isSome = true) : ((W.drewN k).cell? p).isSome = true := h
theorem is_drew {W : World} {p : Addr} (h : (W.cell? p).isSome = true) : (W.drew.cell? p).isSome = true := h
theorem is_set {W : World} {p q : Addr} {u : Value} (h : (W.cell? p).isSome = true) : ((W.setCell q u).cell? p).isSome = true := by
  obtain ⟨v, hv⟩ := Option.isSome_iff_exists.1 h
  obtain ⟨v', hv'⟩ := cell?_setCell_some (w := W) (p := q) (x := u) hv
  exact is_of hv'
theorem set_same {W : World} {p : Addr} {u : Value} (h : (W.cell? p).isSome = true) : (W.setCell p u).cell? p = some u := by
  obtain ⟨v, hv⟩ := Option.isSome_iff_exists.1 h
  exact World.cell?_setCell_same W p u hv
theorem keepf_alloc {W : World} {p : Addr} {o : Obj} (hp : p.block < W.heap.size) (h : W.frozen? p = false) : (W.alloc o).frozen? p = false :=
  (World.frozen?_alloc_old _ _ _ (by omega)).trans h
theorem keepf_drewN {W : World} {p : Addr} {k : Nat} (h : W.frozen? p = false) : (W.drewN k).frozen? p = false := h
theorem keepf_drew {W : World} {p : Addr} (h : W.frozen? p = false) : W.drew.frozen? p = false := h
theorem keepf_set {W : World} {p q : Addr} {u : Value} (h : W.frozen? p = false) : (W.setCell q u).frozen? p = false := (World.frozen?_setCell _ _ _ _).trans h
theorem new_cell {W : World} {c : Array Value} {t : TypeId} {i : Nat} {v : Value} (h : c[i]? = some v) : (W.alloc (.cells c t)).cell? ⟨W.heap.size, i, none⟩ = some v :=
  (World.cell?_alloc_new W c t i).trans h
theorem below_alloc {B : Nat} {a W : World} {o : Obj} (hB : B ≤ W.heap.size) (h : Below B a W) : Below B a (W.alloc o) := h.alloc hB o
theorem below_set {B : Nat} {a W : World} {p : Addr} {u : Value} (hp : B ≤ p.block) (h : Below B a W) : Below B a (W.setCell p u) := h.setCell hp u
theorem below_N {B : Nat} {a W : World} {k : Nat} (h : Below B a W) : Below B a (W.drewN k) := belowN h k

section
variable {H : Type} {enc : TypeId × Value → H} {P : Program}

theorem post_below {f : Func} {s : ChangeSpec} {apart fresh handsOn : Bool} {W W' : World} {args : Array Value} {v : Value} {ds gs : List (DataW H)} {before pa pv : List MemPlace}
    (hW : DataW.Whole enc P f.params.toList s.vars apart W args.toList ds gs before)
    (hres : ∀ (b : Nat) (sp : Nat → Bool) (hd : Bool), DataW.TrodAll enc P W' b sp hd f.resultTypes.toList (v.resultList f.resultTypes.size) (s.fn H (ds ++ gs)).results [])
    (hargs : ∀ sp : Nat → Bool, (∀ p ∈ before, sp p.block = true) → DataW.TrodAll enc P W' 0 sp true f.params.toList args.toList (s.fn H (ds ++ gs)).args pa)
    (hvars : ∀ sp : Nat → Bool, (∀ p ∈ before, sp p.block = true) → DataW.TrodVars enc P W' sp s.vars (s.fn H (ds ++ gs)).vars pv)
    (hps : before = pa ++ pv) (hb : Below W.heap.size W W') :
    s.post enc P f apart fresh handsOn false W args v W' := by
  have hlt : ∀ p ∈ before, p.block < W.heap.size := fun p hp => hW.lt p hp
  have hold : ∀ p ∈ before, (fun b => decide (b < W.heap.size)) p.block = true := fun p hp => decide_eq_true (hlt p hp)
  refine ⟨ds, gs, before, [], pa, pv, hW, hres _ _ _, hargs _ hold, hvars _ hold, World.keptBut_mono (fun p hp => ⟨hp, ?_⟩) (hb.frame (· ∈ before)), fun h => ?_⟩
  · rw [hps, List.mem_append] at hp
    exact Or.inr hp
  · cases h
end
end Go.Proofs.Ytjjdnmlfhankjaa
