/- DemandEnough: what is known of memory: the pages of eight kinds, the blocks that are there, the number of pages. -/
import Derived.Test.YtjjdnmlfhankjaaEnP
namespace Go.Proofs.Ytjjdnmlfhankjaa
open Go.RowKit Flt
set_option linter.unusedVariables false

def flat (T : List (Int × Int)) : List Value := T.flatMap fun x => [.int .i64 x.1, .int .i64 x.2]
def updV (v : Nat → Value) (c : Nat) (x : Value) : Nat → Value := fun j => if j = c then x else v j
theorem updV_same {v : Nat → Value} {c : Nat} {x : Value} : updV v c x c = x := if_pos rfl
theorem updV_other {v : Nat → Value} {c j : Nat} {x : Value} (h : j ≠ c) : updV v c x j = v j := if_neg h

structure EnMem (w : World) (base B nb : Nat) (v : Nat → Value) (L : Nat → List Int) (n : Int) (vT : Value) (T : List (Int × Int)) : Prop where
  pg : ∀ c : Nat, c < 8 → Pages w base B c nb (v c) (L c) n
  ap : ∀ c d : Nat, c < 8 → d < 8 → c ≠ d → ∀ g, (v c).ownBlock = some g → (v d).ownBlock ≠ some g
  th : w.ownsRow base 42 2 vT T.length (flat T)
  ta : ∀ c : Nat, c < 8 → ∀ g, vT.ownBlock = some g → (v c).ownBlock ≠ some g
  tB : vT.ownBlock ≠ some B
  tn : vT.ownBlock ≠ some nb

theorem own_lt {w : World} {base : Nat} {e : TypeId} {size : Nat} {v : Value} {n : Nat} {xs : List Value} (h : w.ownsRow base e size v n xs) {g : Nat} (hg : v.ownBlock = some g) : g < w.heap.size := by
  rcases h.2 with ⟨rfl, _⟩ | ⟨g', cap, cur, rfl, _, hh, _⟩
  · cases hg
  · simp only [Value.ownBlock, Option.some.injEq] at hg
    subst hg
    exact lt_of_block hh

theorem heap_set' {w : World} {b i : Nat} {c : Array Value} {t : TypeId} {u : Value} (h : w.heap[b]? = some (.cells c t (0, 0))) : (w.setCell ⟨b, i, none⟩ u).heap[b]? = some (.cells (c.setIfInBounds i u) t (0, 0)) := by
  simp [World.setCell, Array.getElem?_modify, h]

theorem EnMem.below {w w1 : World} {base B nb : Nat} {v : Nat → Value} {L : Nat → List Int} {n : Int} {vT : Value} {T : List (Int × Int)} (h : EnMem w base B nb v L n vT T) (hb : Below w.heap.size w w1) : EnMem w1 base B nb v L n vT T :=
  ⟨fun c hc => (h.pg c hc).below hb, h.ap, (Only.of_below hb).owns h.th (fun g hg => by have := own_lt h.th hg; omega), h.ta, h.tB, h.tn⟩

theorem EnMem.put {w w' : World} {base B nb : Nat} {v : Nat → Value} {L : Nat → List Int} {n : Int} {vT : Value} {T : List (Int × Int)} (h : EnMem w base B nb v L n vT T) {c : Nat} (hc : c < 8)
    {v' : Value} {L' : List Int} {n' : Int} (hP : Pages w' base B c nb v' L' n') (hO : Only (fun b => b = B ∨ b = nb ∨ (v c).ownBlock = some b) w w')
    (hv : v'.ownBlock = (v c).ownBlock ∨ ∀ g, v'.ownBlock = some g → w.heap.size ≤ g)
    (hK : ∀ o u, o ≠ c → w.cell? ⟨B, o, none⟩ = some u → w'.cell? ⟨B, o, none⟩ = some u ∧ w'.frozen? ⟨B, o, none⟩ = w.frozen? ⟨B, o, none⟩) :
    EnMem w' base B nb (updV v c v') (upd L c L') n' vT T where
  pg := fun d hd => by
    by_cases e : d = c
    · subst e; rw [updV_same, upd_same]; exact hP
    · rw [updV_other e, upd_other e]
      have hd' := h.pg d hd
      obtain ⟨k1, k2⟩ := hK d _ e hd'.p
      exact ⟨k1, k2.trans hd'.pf, hP.n, hP.nf, hO.owns hd'.own (fun g hg hq => by
        rcases hq with hq | hq | hq
        · subst hq; exact hd'.np hg
        · subst hq; exact hd'.nn hg
        · exact h.ap d c hd hc e g hg hq), hd'.np, hd'.nn⟩
  ap := fun d f hd hf hne g hg => by
    by_cases e : d = c
    · subst e
      rw [updV_same] at hg
      rw [updV_other (fun e => hne e.symm)]
      rcases hv with hv | hv
      · exact h.ap d f hd hf hne g (hv ▸ hg)
      · intro hq; have := own_lt (h.pg f hf).own hq; have := hv g hg; omega
    · rw [updV_other e] at hg
      by_cases e2 : f = c
      · subst e2
        rw [updV_same]
        rcases hv with hv | hv
        · rw [hv]; exact h.ap d f hd hf hne g hg
        · intro hq; have := own_lt (h.pg d hd).own hg; have := hv g hq; omega
      · rw [updV_other e2]; exact h.ap d f hd hf hne g hg
  th := hO.owns h.th (fun g hg hq => by
    rcases hq with hq | hq | hq
    · subst hq; exact h.tB hg
    · subst hq; exact h.tn hg
    · exact h.ta c hc g hg hq)
  ta := fun d hd g hg => by
    by_cases e : d = c
    · subst e
      rw [updV_same]
      rcases hv with hv | hv
      · rw [hv]; exact h.ta d hd g hg
      · intro hq; have := own_lt h.th hg; have := hv g hq; omega
    · rw [updV_other e]; exact h.ta d hd g hg
  tB := h.tB
  tn := h.tn

/-- The number of pages is stored. -/
theorem EnMem.setN {w : World} {base B nb : Nat} {v : Nat → Value} {L : Nat → List Int} {n : Int} {vT : Value} {T : List (Int × Int)} (h : EnMem w base B nb v L n vT T) (hne : B ≠ nb) (n' : Int) :
    EnMem (w.setCell ⟨nb, 0, none⟩ (.int .i64 n')) base B nb v L n' vT T where
  pg := fun d hd => by
    have hd' := h.pg d hd
    have hO : Only (· = nb) w (w.setCell ⟨nb, 0, none⟩ (.int .i64 n')) := (Only.refl (· = nb) w).setCell (p := ⟨nb, 0, none⟩) (fun _ => rfl) _
    have hl := block_lt hd'.p
    exact ⟨hO.cell hd'.p hne, (hO.frozen (p := ⟨B, d, none⟩) hl hne).trans hd'.pf, World.cell?_setCell_same' w _ _ (by rw [hd'.n]; rfl), (World.frozen?_setCells nb [.int .i64 n'] 0 w _).trans hd'.nf, hO.owns hd'.own (fun g hg hq => by subst hq; exact hd'.nn hg), hd'.np, hd'.nn⟩
  ap := h.ap
  th := ((Only.refl (· = nb) w).setCell (p := ⟨nb, 0, none⟩) (fun _ => rfl) _).owns h.th (fun g hg hq => by subst hq; exact h.tn hg)
  ta := h.ta
  tB := h.tB
  tn := h.tn

/-- A page of kind c is stored. -/
theorem EnMem.setP {w : World} {base B nb : Nat} {v : Nat → Value} {L : Nat → List Int} {n : Int} {vT : Value} {T : List (Int × Int)} (h : EnMem w base B nb v L n vT T) {c : Nat} (hc : c < 8) {g : Nat}
    (hg : (v c).ownBlock = some g) {p : Nat} (hp : p < (L c).length) (x : Int) :
    EnMem (w.setCell ⟨g, p, none⟩ (.int .i64 x)) base B nb v (upd L c ((L c).set p x)) n vT T where
  pg := fun d hd => by
    have hd' := h.pg d hd
    have hO : Only (· = g) w (w.setCell ⟨g, p, none⟩ (.int .i64 x)) := (Only.refl (· = g) w).setCell (p := ⟨g, p, none⟩) (fun _ => rfl) _
    have hc' := h.pg c hc
    have hB : ¬ (B = g) := fun e => hc'.np (by rw [hg, e])
    have hN : ¬ (nb = g) := fun e => hc'.nn (by rw [hg, e])
    have hl := block_lt hd'.p
    have hln := block_lt hd'.n
    refine ⟨hO.cell hd'.p hB, (hO.frozen (p := ⟨B, d, none⟩) hl hB).trans hd'.pf, hO.cell hd'.n hN, (hO.frozen (p := ⟨nb, 0, none⟩) hln hN).trans hd'.nf, ?_, hd'.np, hd'.nn⟩
    by_cases e : d = c
    · subst e
      rw [upd_same]
      obtain ⟨hl1, hr⟩ := hd'.own
      rcases hr with ⟨e1, _⟩ | ⟨g', cap, cur, e1, e2, e3, e4, e5, e6, e7⟩
      · rw [e1] at hg; cases hg
      · rw [e1] at hg
        simp only [Value.ownBlock, Option.some.injEq] at hg
        subst hg
        refine ⟨by simp, Or.inr ⟨g', cap, cur.setIfInBounds p (.int .i64 x), by rw [e1, List.length_set], e2, heap_set' e3, by rw [List.length_set]; exact e4, e5, by simpa using e6, ?_⟩⟩
        rw [map_set, ← e7]
        simp [List.take_set]
    · rw [upd_other e]
      exact hO.owns hd'.own (fun g' hg' hq => by subst hq; exact h.ap d c hd hc e _ hg' hg)
  ap := h.ap
  th := ((Only.refl (· = g) w).setCell (p := ⟨g, p, none⟩) (fun _ => rfl) _).owns h.th (fun g' hg' hq => by subst hq; exact h.ta c hc _ hg' hg)
  ta := h.ta
  tB := h.tB
  tn := h.tn

theorem Pages.only {w w1 : World} {base pb po nb : Nat} {v : Value} {L : List Int} {n : Int} {bs : Nat → Prop} (h : Pages w base pb po nb v L n) (hO : Only bs w w1) (h1 : ¬ bs pb) (h2 : ¬ bs nb)
    (h3 : ∀ g, v.ownBlock = some g → ¬ bs g) : Pages w1 base pb po nb v L n :=
  ⟨hO.cell h.p h1, (hO.frozen (p := ⟨pb, po, none⟩) (by exact block_lt h.p) h1).trans h.pf, hO.cell h.n h2, (hO.frozen (p := ⟨nb, 0, none⟩) (by exact block_lt h.n) h2).trans h.nf, hO.owns h.own h3, h.np, h.nn⟩

/-- The blocks that are there lie in another row. -/
theorem EnMem.there {w w' : World} {base B nb : Nat} {v : Nat → Value} {L : Nat → List Int} {n : Int} {vT vT' : Value} {T T' : List (Int × Int)} (h : EnMem w base B nb v L n vT T)
    (hO : Only (fun b => vT.ownBlock = some b) w w') (ht : w'.ownsRow base 42 2 vT' T'.length (flat T'))
    (hv : vT'.ownBlock = vT.ownBlock ∨ ∀ g, vT'.ownBlock = some g → w.heap.size ≤ g) : EnMem w' base B nb v L n vT' T' where
  pg := fun c hc => (h.pg c hc).only hO h.tB h.tn (fun g hg hq => h.ta c hc g hq hg)
  ap := h.ap
  th := ht
  ta := fun c hc g hg => by
    rcases hv with hv | hv
    · exact h.ta c hc g (hv ▸ hg)
    · intro hq; have := own_lt (h.pg c hc).own hq; have := hv g hg; omega
  tB := by
    rcases hv with hv | hv
    · rw [hv]; exact h.tB
    · intro hq; have h1 : B < w.heap.size := block_lt (h.pg 0 (by omega)).p; have := hv _ hq; omega
  tn := by
    rcases hv with hv | hv
    · rw [hv]; exact h.tn
    · intro hq; have h1 : nb < w.heap.size := block_lt (h.pg 0 (by omega)).n; have := hv _ hq; omega

theorem flat_append (A B : List (Int × Int)) : flat (A ++ B) = flat A ++ flat B := by unfold flat; simp
theorem flat_length : ∀ (T : List (Int × Int)), (flat T).length = T.length * 2
  | [] => rfl
  | x :: T => by
    have := flat_length T
    unfold flat at this ⊢
    simp only [List.flatMap_cons, List.length_append, this, List.length_cons, List.length_nil]; omega
theorem flat_one {T : List (Int × Int)} : ∀ u ∈ flat T, u.oneCell' = true := by
  intro u hu
  unfold flat at hu
  obtain ⟨x, _, hx⟩ := List.mem_flatMap.1 hu
  simp at hx
  rcases hx with rfl | rfl <;> rfl

def nil24 : Array Value := #[.slice none 0 0, .slice none 0 0, .slice none 0 0, .slice none 0 0, .slice none 0 0, .slice none 0 0, .slice none 0 0, .slice none 0 0, .slice none 0 0, .slice none 0 0, .slice none 0 0, .slice none 0 0, .slice none 0 0, .slice none 0 0, .slice none 0 0, .slice none 0 0, .slice none 0 0, .slice none 0 0, .slice none 0 0, .slice none 0 0, .slice none 0 0, .slice none 0 0, .slice none 0 0, .slice none 0 0]
theorem nil24_at {c : Nat} (hc : c < 8) : nil24[c]? = some (.slice none 0 0) := by
  rcases (by omega : c = 0 ∨ c = 1 ∨ c = 2 ∨ c = 3 ∨ c = 4 ∨ c = 5 ∨ c = 6 ∨ c = 7) with rfl | rfl | rfl | rfl | rfl | rfl | rfl | rfl <;> rfl

theorem en_mem_start (w : World) (t t2 : TypeId) :
    EnMem ((w.alloc (.cells nil24 t)).alloc (.cells #[.int .i64 0] t2)) (w.heap.size + 2) w.heap.size (w.heap.size + 1) (fun _ => .slice none 0 0) (fun _ => []) 0 (.slice none 0 0) [] where
  pg := fun c hc => by
    have h1 : ((w.alloc (.cells nil24 t)).alloc (.cells #[.int .i64 0] t2)).heap[w.heap.size]? = some (.cells nil24 t) := (Below.heap_alloc _ _ _ (by simp)).trans (heap_alloc_new w _)
    have h2 : ((w.alloc (.cells nil24 t)).alloc (.cells #[.int .i64 0] t2)).heap[w.heap.size + 1]? = some (.cells #[.int .i64 0] t2) := by
      have := heap_alloc_new (w.alloc (.cells nil24 t)) (.cells #[.int .i64 0] t2)
      rwa [World.size_alloc] at this
    exact ⟨keep_alloc (new_cell (nil24_at hc)), by simp [World.frozen?, h1], cell_of_one h2, free_of_one h2, World.ownsRow_nil _ _ _ _, fun e => (by cases e), fun e => (by cases e)⟩
  ap := fun c d _ _ _ g hg => by cases hg
  th := World.ownsRow_nil _ _ _ _
  ta := fun c _ g hg => by cases hg
  tB := fun e => by cases e
  tn := fun e => by cases e

end Go.Proofs.Ytjjdnmlfhankjaa
