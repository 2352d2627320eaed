/- What holds of SumTotals' loop at every round's head, and what a round does to it. No walk here. -/
import Derived.Test.YtlabnphdfdaadaaTotal
import Derived.Test.YtlabnphdfdaadaaMem
namespace Go.Proofs.Ytlabnphdfdaadaa
open Go.RowKit Flt

def good (xs : List (Int × Int)) : List (Int × Int) := xs.filter fun x => okS x.1 x.2
def cv (x : Int × Int) : Value := .complex .f64 (F x.1) (F x.2)

theorem good_ok {xs : List (Int × Int)} : ∀ x ∈ good xs, okS x.1 x.2 = true := by intro x hx; unfold good at hx; simpa using (List.mem_filter.1 hx).2
theorem good_len (xs : List (Int × Int)) : (good xs).length ≤ xs.length := List.length_filter_le _ _
theorem good_yes {xs : List (Int × Int)} {k : Nat} (h : k < xs.length) (hok : okS (xs[k]).1 (xs[k]).2 = true) : good (xs.take (k + 1)) = good (xs.take k) ++ [xs[k]] := by
  rw [List.take_succ_eq_append_getElem h]; unfold good; rw [List.filter_append]; simp [hok]
theorem good_no {xs : List (Int × Int)} {k : Nat} (h : k < xs.length) (hok : okS (xs[k]).1 (xs[k]).2 = false) : good (xs.take (k + 1)) = good (xs.take k) := by
  rw [List.take_succ_eq_append_getElem h]; unfold good; rw [List.filter_append]; simp [hok]

theorem sum_append (xs ys : List (Int × Int)) : sumA (xs ++ ys) = sumA xs + sumA ys ∧ sumC (xs ++ ys) = sumC xs + sumC ys := by
  induction xs with
  | nil => simp [sumA, sumC]
  | cons x r ih => simp only [List.cons_append, sumA, sumC, ih.1, ih.2]; exact ⟨by omega, by omega⟩
theorem sum_snoc (xs : List (Int × Int)) (x : Int × Int) : sumA (xs ++ [x]) = sumA xs + x.1 ∧ sumC (xs ++ [x]) = sumC xs + x.2 := by
  have := sum_append xs [x]; simpa [sumA, sumC] using this
theorem sum_rev (xs : List (Int × Int)) : sumA xs.reverse = sumA xs ∧ sumC xs.reverse = sumC xs := by
  induction xs with
  | nil => exact ⟨rfl, rfl⟩
  | cons x r ih => rw [List.reverse_cons, (sum_snoc _ _).1, (sum_snoc _ _).2, ih.1, ih.2]; simp only [sumA, sumC]; exact ⟨by omega, by omega⟩

/-- Behind a sum that may not be none comes that may. -/
theorem stay_no {ys : List (Int × Int)} {x : Int × Int} (hy : ∀ z ∈ ys, okS z.1 z.2 = true) (hx : okS x.1 x.2 = true) (h : okS (sumA ys) (sumC ys) = false) : okS (sumA (ys ++ [x])) (sumC (ys ++ [x])) = false := by
  have h0 := sum_nonneg hy
  have h1 := okS_iff.1 hx
  rw [(sum_snoc _ _).1, (sum_snoc _ _).2]
  rw [← Bool.not_eq_true, okS_iff] at h ⊢
  intro g
  exact h ⟨by omega, by omega, by omega, by omega⟩

/-- The rows l, m hold ys and ys in the other order; the box holds what zs come to, and f whether they may. -/
structure TotR (w : World) (ys zs : List (Int × Int)) (l m f : Value) (wr : World) : Prop where
  hl : wr.ownsRow (w.heap.size + 1) 23 1 l ys.length (ys.map cv)
  hm : wr.ownsRow (w.heap.size + 1) 23 1 m ys.length (ys.reverse.map cv)
  hne : ∀ g, l.ownBlock = some g → m.ownBlock ≠ some g
  hf : f = .int .i64 (rE (sumA zs) (sumC zs))
  hc0 : wr.cell? ⟨w.heap.size, 0, none⟩ = some (.int .i64 (rB (sumA zs) (sumC zs)))
  hc1 : wr.cell? ⟨w.heap.size, 1, none⟩ = some (.int .i64 (rP (sumA zs) (sumC zs)))
  hf0 : wr.frozen? ⟨w.heap.size, 0, none⟩ = false
  hf1 : wr.frozen? ⟨w.heap.size, 1, none⟩ = false
  hb : Below w.heap.size w wr

theorem TotR.size {w wr : World} {ys zs : List (Int × Int)} {l m f : Value} (h : TotR w ys zs l m f wr) : w.heap.size + 1 ≤ wr.heap.size := by
  have := block_lt h.hc0
  exact this

theorem TotR.start (w : World) : TotR w [] [] (.slice none 0 0) (.slice none 0 0) (.int .i64 0) (w.alloc (.cells #[.int .i64 0, .int .i64 0] 36)) := by
  obtain ⟨e1, e2, e3⟩ := r_yes (a := 0) (b := 0) (ok_lit (by omega))
  exact ⟨World.ownsRow_nil _ _ _ _, World.ownsRow_nil _ _ _ _, fun g h => by simp [Value.ownBlock] at h, by show _ = Value.int .i64 (rE 0 0); rw [e3],
    by show _ = some (Value.int .i64 (rB 0 0)); rw [e1]; exact new_cell rfl, by show _ = some (Value.int .i64 (rP 0 0)); rw [e2]; exact new_cell rfl,
    World.frozen?_alloc_new _ _ _ _, World.frozen?_alloc_new _ _ _ _, (Below.refl _ _).alloc (Nat.le_refl _) _⟩

theorem TotR.drewN {w wr : World} {ys zs : List (Int × Int)} {l m f : Value} (h : TotR w ys zs l m f wr) (k : Nat) : TotR w ys zs l m f (wr.drewN k) :=
  ⟨h.hl, h.hm, h.hne, h.hf, h.hc0, h.hc1, h.hf0, h.hf1, belowN h.hb k⟩

theorem TotR.box {w wr : World} {ys zs zs' : List (Int × Int)} {l m f : Value} (h : TotR w ys zs l m f wr) (e1 : rB (sumA zs) (sumC zs) = rB (sumA zs') (sumC zs')) (e2 : rP (sumA zs) (sumC zs) = rP (sumA zs') (sumC zs')) (e3 : rE (sumA zs) (sumC zs) = rE (sumA zs') (sumC zs')) : TotR w ys zs' l m f wr := by
  obtain ⟨h1, h2, h3, h4, h5, h6, h7, h8, h9⟩ := h
  rw [e3] at h4; rw [e1] at h5; rw [e2] at h6
  exact ⟨h1, h2, h3, h4, h5, h6, h7, h8, h9⟩

/-- The box is written anew. -/
theorem TotR.upd {w wr W : World} {ys zs zs' : List (Int × Int)} {l m f f' : Value} (h : TotR w ys zs l m f wr) (hg : wr.grownBy W (some w.heap.size)) (hf : f' = .int .i64 (rE (sumA zs') (sumC zs')))
    (h0 : W.cell? ⟨w.heap.size, 0, none⟩ = some (.int .i64 (rB (sumA zs') (sumC zs')))) (h1 : W.cell? ⟨w.heap.size, 1, none⟩ = some (.int .i64 (rP (sumA zs') (sumC zs'))))
    (g0 : W.frozen? ⟨w.heap.size, 0, none⟩ = false) (g1 : W.frozen? ⟨w.heap.size, 1, none⟩ = false) : TotR w ys zs' l m f' W := by
  refine ⟨h.hl.kept hg ?_, h.hm.kept hg ?_, h.hne, hf, h0, h1, g0, g1, h.hb.grown hg (by have := h.size; omega) (fun k hk => by injection hk; omega)⟩
  · cases hv : l.ownBlock with
    | none => exact .inl rfl
    | some g => exact .inr (fun e => by have := (h.hl.lt g hv).1; injection e; omega)
  · cases hv : m.ownBlock with
    | none => exact .inl rfl
    | some g => exact .inr (fun e => by have := (h.hm.lt g hv).1; injection e; omega)

/-- Two appends. -/
theorem TotR.add {w wr w1 w2 : World} {ys zs : List (Int × Int)} {l m f l1 m2 : Value} {x : Int × Int} {o o' : Obj} (h : TotR w ys zs l m f wr)
    (hl : w1.ownsRow (w.heap.size + 1) 23 1 l1 (ys.length + 1) (ys.map cv ++ [cv x])) (hg : (wr.alloc o).grownBy w1 l.ownBlock)
    (hm : w2.ownsRow (w.heap.size + 1) 23 1 m2 (1 + ys.length) ([cv x] ++ ys.reverse.map cv)) (hg2 : (w1.alloc o').grownBy w2 (some w1.heap.size))
    (hm2 : m2.ownBlock = some w1.heap.size ∨ m2.ownBlock = some (w1.alloc o').heap.size) : TotR w (ys ++ [x]) zs l1 m2 f w2 := by
  have hs := h.size
  have hlb : ∀ k, l.ownBlock = some k → w.heap.size + 1 ≤ k := fun k hk => (h.hl.lt k hk).1
  have hs1 : w.heap.size + 1 ≤ w1.heap.size := Nat.le_trans hs (Nat.le_trans (by simp) hg.size)
  have keep : ∀ p : Addr, p.block = w.heap.size → w2.heap[p.block]? = wr.heap[p.block]? := by
    intro p hp
    rw [hg2.block p.block (by simp; omega) (by intro e; injection e; omega), Below.heap_alloc w1 o' p.block (by omega),
      hg.block p.block (by simp; omega) (by intro e; have := hlb p.block e.symm; omega), Below.heap_alloc wr o p.block (by omega)]
  have hb1 : Below w.heap.size w w1 := (h.hb.alloc (by omega) o).grown hg (by simp; omega) (fun k hk => by have := hlb k hk; omega)
  have hb2 : Below w.heap.size w w2 := (hb1.alloc (by omega) o').grown hg2 (by simp; omega) (fun k hk => by injection hk; omega)
  refine ⟨?_, ?_, ?_, h.hf, (World.cell?_of_block (keep _ rfl)).trans h.hc0, (World.cell?_of_block (keep _ rfl)).trans h.hc1, (World.frozen?_of_block (keep _ rfl)).trans h.hf0, (World.frozen?_of_block (keep _ rfl)).trans h.hf1, hb2⟩
  · rw [List.length_append, List.map_append]
    refine (hl.alloc o').kept hg2 ?_
    cases hv : l1.ownBlock with
    | none => exact .inl rfl
    | some g => exact .inr (fun e => by have := (hl.lt g hv).2; injection e; omega)
  · rw [List.reverse_append, List.length_append, List.map_append, show ys.length + [x].length = 1 + ys.length by simp; omega]
    exact hm
  · intro g hgl e
    have := (hl.lt g hgl).2
    rcases hm2 with e2 | e2 <;> rw [e2] at e <;> injection e with e
    · omega
    · simp at e; omega

theorem own_m {w wr w1 : World} {ys zs : List (Int × Int)} {l m f : Value} {o : Obj} (h : TotR w ys zs l m f wr) (hg : (wr.alloc o).grownBy w1 l.ownBlock) : w1.ownsRow (w.heap.size + 1) 23 1 m ys.length (ys.reverse.map cv) := by
  refine (h.hm.alloc o).kept hg ?_
  cases hv : m.ownBlock with
  | none => exact .inl rfl
  | some g => exact .inr (fun e => h.hne g e.symm hv)

theorem cv_one (x : Int × Int) : ∀ u ∈ [cv x], u.oneCell' = true := by intro u hu; simp at hu; subst hu; rfl
theorem cv_all (xs : List (Int × Int)) : ∀ u ∈ xs.map cv, u.oneCell' = true := by
  intro u hu
  obtain ⟨x, _, rfl⟩ := List.mem_map.1 hu
  rfl
theorem le_alloc {B : Nat} {W : World} {o : Obj} (h : B ≤ W.heap.size) : B ≤ (W.alloc o).heap.size := by simp; omega
theorem lit_own {B : Nat} {W : World} (x : Int × Int) (h : B ≤ W.heap.size) : (W.alloc (.cells #[cv x] 23)).ownsRow B 23 1 (.slice (some ⟨W.heap.size, 0, none⟩) 1 1) 1 [cv x] :=
  World.ownsRow_lit W #[cv x] 1 h (by unfold maxLen; omega) rfl

/-- Total of a row of the call's own. -/
theorem total_own (base : Nat) (v : Value) (ys : List (Int × Int)) (w : World) (hmax : ys.length ≤ 1000000) (hok : ∀ x ∈ ys, okS x.1 x.2 = true)
    (h : w.ownsRow base 23 1 v ys.length (ys.map cv)) :
    Calls Try.prog 24 #[v] w fun e w' => e = .returned (.tuple #[.complex .f64 (F (rB (sumA ys) (sumC ys))) (F (rP (sumA ys) (sumC ys))), .int .i64 (rE (sumA ys) (sumC ys))]) ∧ w' = w := by
  rcases h.2 with ⟨rfl, hn⟩ | ⟨g, cap, cur, hv, _⟩
  · have hn' : ys = [] := List.eq_nil_of_length_eq_zero hn
    subst hn'
    obtain ⟨e1, e2, e3⟩ := r_yes (a := 0) (b := 0) (ok_lit (by omega))
    simp only [sumA, sumC, e1, e2, e3, F_zero]
    exact total_nil 0 none w
  · subst hv
    refine total_F g 0 ys.length cap ys w rfl hmax hok ?_
    intro i hi
    rw [h.cellAt (0 + i) (by omega)]
    simp [cv, hi]

theorem total_at (base : Nat) (v : Value) (ys : List (Int × Int)) (w : World) (a b e : Int) (hmax : ys.length ≤ 1000000) (hok : ∀ x ∈ ys, okS x.1 x.2 = true)
    (h : w.ownsRow base 23 1 v ys.length (ys.map cv)) (ha : rB (sumA ys) (sumC ys) = a) (hb : rP (sumA ys) (sumC ys) = b) (he : rE (sumA ys) (sumC ys) = e) :
    Calls Try.prog 24 #[v] w fun r w' => r = .returned (.tuple #[.complex .f64 (F a) (F b), .int .i64 e]) ∧ w' = w := by
  have := total_own base v ys w hmax hok h
  rwa [ha, hb, he] at this

theorem total_rev (base : Nat) (v : Value) (ys : List (Int × Int)) (w : World) (a b e : Int) (hmax : ys.length ≤ 1000000) (hok : ∀ x ∈ ys, okS x.1 x.2 = true)
    (h : w.ownsRow base 23 1 v ys.length (ys.reverse.map cv)) (ha : rB (sumA ys) (sumC ys) = a) (hb : rP (sumA ys) (sumC ys) = b) (he : rE (sumA ys) (sumC ys) = e) :
    Calls Try.prog 24 #[v] w fun r w' => r = .returned (.tuple #[.complex .f64 (F a) (F b), .int .i64 e]) ∧ w' = w :=
  total_at base v ys.reverse w a b e (by simpa using hmax) (fun x hx => hok x (List.mem_reverse.1 hx)) (by simpa using h)
    (by rw [(sum_rev ys).1, (sum_rev ys).2]; exact ha) (by rw [(sum_rev ys).1, (sum_rev ys).2]; exact hb) (by rw [(sum_rev ys).1, (sum_rev ys).2]; exact he)

end Go.Proofs.Ytlabnphdfdaadaa
