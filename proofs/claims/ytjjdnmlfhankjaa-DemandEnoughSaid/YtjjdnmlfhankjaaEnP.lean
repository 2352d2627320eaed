/- DemandEnough, the plain law: blocks come and go; there are never more pages than the demand says. No walk here. -/
import Derived.Test.YtjjdnmlfhankjaaMet05
namespace Go.Proofs.Ytjjdnmlfhankjaa
open Go.RowKit Flt
set_option linter.unusedVariables false

attribute [local irreducible] smallT unitT kindT perT pagesT alignT chargeT byT

/-- A sum over the blocks that are there. -/
def tsum (f : Int × Int → Int) : List (Int × Int) → Int
  | [] => 0
  | x :: T => f x + tsum f T
theorem tsum_append (f : Int × Int → Int) : ∀ (A B : List (Int × Int)), tsum f (A ++ B) = tsum f A + tsum f B
  | [], B => by simp [tsum]
  | x :: A, B => by simp only [List.cons_append, tsum, tsum_append f A B]; omega
theorem tsum_le {f g : Int × Int → Int} : ∀ {T : List (Int × Int)}, (∀ x ∈ T, f x ≤ g x) → tsum f T ≤ tsum g T
  | [], _ => Int.le_refl _
  | x :: T, h => by
    have h1 := h x (List.mem_cons_self ..)
    have h2 := tsum_le (f := f) (g := g) (T := T) (fun y hy => h y (List.mem_cons_of_mem _ hy))
    simp only [tsum]; omega
theorem tsum_nonneg {f : Int × Int → Int} {T : List (Int × Int)} (h : ∀ x ∈ T, 0 ≤ f x) : 0 ≤ tsum f T := by
  have := tsum_le (f := fun _ => 0) (g := f) (T := T) h
  have h0 : ∀ T : List (Int × Int), tsum (fun _ => 0) T = 0 := by
    intro T
    induction T with
    | nil => rfl
    | cons x T ih => simp only [tsum, ih]; rfl
  rw [h0] at this
  exact this
theorem tsum_mul (a : Int) (f : Int × Int → Int) : ∀ (T : List (Int × Int)), tsum (fun x => a * f x) T = a * tsum f T
  | [] => by simp [tsum]
  | x :: T => by simp only [tsum, tsum_mul a f T, Int.mul_add]

def kF (c : Int) (x : Int × Int) : Int := if x.1 = c then 1 else 0
def pF (c p : Int) (x : Int × Int) : Int := if x.1 = c ∧ x.2 = p then 1 else 0
def uF (x : Int × Int) : Int := unitT x.1
def rF (x : Int × Int) : Int := if 8 ≤ x.1 then pagesT x.1 else 0

/-- How many pages of a kind bear a block. -/
def live : List Int → Int
  | [] => 0
  | x :: L => (if 0 < x then 1 else 0) + live L
theorem live_append (L : List Int) (x : Int) : live (L ++ [x]) = live L + (if 0 < x then 1 else 0) := by
  induction L with
  | nil => simp [live]
  | cons y L ih => simp only [List.cons_append, live, ih]; omega
theorem live_set : ∀ (l : List Int) (i : Nat) (x : Int), i < l.length → live (l.set i x) = live l - (if 0 < l.getD i 0 then 1 else 0) + (if 0 < x then 1 else 0)
  | [], i, x, h => by simp at h
  | y :: l, 0, x, _ => by simp only [List.set_cons_zero, live, List.getD_cons_zero]; omega
  | y :: l, i + 1, x, h => by
    have := live_set l i x (by simpa using h)
    simp only [List.set_cons_succ, live, List.getD_cons_succ, this]; omega
theorem live_full {per : Int} (hp : 0 ≤ per) : ∀ {l : List Int}, (∀ x ∈ l, 0 ≤ x) → (∀ x ∈ l, hasRoom per x = false) → per * live l ≤ isum l
  | [], _, _ => by simp [live, isum]
  | y :: l, h0, h => by
    have h1 := live_full hp (l := l) (fun x hx => h0 x (List.mem_cons_of_mem _ hx)) (fun x hx => h x (List.mem_cons_of_mem _ hx))
    have h2 := h y (List.mem_cons_self ..)
    have h3 := h0 y (List.mem_cons_self ..)
    unfold hasRoom at h2
    simp only [Bool.and_eq_false_iff, decide_eq_false_iff_not] at h2
    simp only [live, isum, Int.mul_add]
    split <;> simp <;> omega
theorem live_nonneg : ∀ (l : List Int), 0 ≤ live l
  | [] => Int.le_refl _
  | y :: l => by have := live_nonneg l; simp only [live]; split <;> omega

def liveS (L : Nat → List Int) : Nat → Int
  | 0 => 0
  | k + 1 => liveS L k + live (L k)
def upd (L : Nat → List Int) (c : Nat) (l : List Int) : Nat → List Int := fun j => if j = c then l else L j
theorem upd_same {L : Nat → List Int} {c : Nat} {l : List Int} : upd L c l c = l := if_pos rfl
theorem upd_other {L : Nat → List Int} {c j : Nat} {l : List Int} (h : j ≠ c) : upd L c l j = L j := if_neg h
theorem liveS_upd (L : Nat → List Int) (c : Nat) (l : List Int) : ∀ k : Nat, liveS (upd L c l) k = liveS L k + (if c < k then live l - live (L c) else 0)
  | 0 => by simp [liveS]
  | k + 1 => by
    have := liveS_upd L c l k
    simp only [liveS, this]
    by_cases h : k = c
    · subst h
      rw [upd_same, if_neg (by omega), if_pos (by omega)]; omega
    · rw [upd_other h]
      by_cases h2 : c < k
      · rw [if_pos h2, if_pos (by omega)]; omega
      · rw [if_neg h2, if_neg (by omega)]; omega
theorem liveS_le {q : Int} {L : Nat → List Int} : ∀ k : Nat, (∀ c : Nat, c < k → live (L c) ≤ byT c q) → liveS L k ≤ sumBy q k
  | 0, _ => by simp [liveS, sumBy]
  | k + 1, h => by
    have h1 := liveS_le k (fun c hc => h c (by omega))
    have h2 := h k (by omega)
    simp only [liveS, sumBy]; omega


theorem en_nn (c : Int) : 0 ≤ unitT c := by
  unfold unitT smallT
  repeat' split
  all_goals omega
theorem en_run {c : Int} (h8 : 8 ≤ c) (h : c ≤ 23) : unitT c = 512 * pagesT c ∧ pagesT c = c - 7 := by
  unfold unitT pagesT
  rw [if_neg (by omega), if_neg (by omega), if_neg (by omega), if_neg (by omega)]
  omega
theorem en_small {c : Int} (h0 : 0 ≤ c) (h7 : c ≤ 7) : 16 ≤ unitT c := by
  unfold unitT smallT
  rw [if_neg (by omega), if_pos (by omega)]
  repeat' split
  all_goals omega
theorem tsum_mid (f : Int × Int → Int) (A B : List (Int × Int)) (x : Int × Int) : tsum f (A ++ x :: B) = tsum f (A ++ B) + f x := by
  simp only [tsum_append, tsum]; omega
theorem tsum_one (f : Int × Int → Int) (A : List (Int × Int)) (x : Int × Int) : tsum f (A ++ [x]) = tsum f A + f x := by
  simp only [tsum_append, tsum]; omega
theorem tsum_zero {f : Int × Int → Int} : ∀ {T : List (Int × Int)}, (∀ x ∈ T, f x = 0) → tsum f T = 0
  | [], _ => rfl
  | x :: T, h => by
    have h1 := h x (List.mem_cons_self ..)
    have h2 := tsum_zero (f := f) (T := T) (fun y hy => h y (List.mem_cons_of_mem _ hy))
    simp only [tsum]; omega

/-- What holds between what is there, the pages of the eight small kinds, what is charged and the number of pages. -/
structure En (q : Int) (T : List (Int × Int)) (L : Nat → List Int) (ch n : Int) : Prop where
  ent : ∀ x ∈ T, (0 ≤ x.1 ∧ x.1 ≤ 7 ∧ 0 ≤ x.2 ∧ x.2 < (L x.1.toNat).length) ∨ (8 ≤ x.1 ∧ x.1 ≤ 23 ∧ x.2 = -1)
  cnt : ∀ c : Nat, c < 8 → ∀ p : Nat, p < (L c).length → (L c).getD p 0 = tsum (pF c p) T
  sum : ∀ c : Nat, c < 8 → isum (L c) = tsum (kF c) T
  hch : ch = tsum uF T
  cq : ch ≤ q
  hn : n = liveS L 8 + tsum rF T
  by_ : ∀ c : Nat, c < 8 → live (L c) ≤ byT c q

theorem en_start {q : Int} (h : 0 ≤ q) : En q [] (fun _ => []) 0 0 :=
  ⟨fun x hx => (by cases hx), fun c _ p hp => absurd hp (by simp), fun c _ => rfl, rfl, h, rfl, fun c _ => (by_bound c q).1⟩

theorem En.pos {q : Int} {T : List (Int × Int)} {L : Nat → List Int} {ch n : Int} (h : En q T L ch n) {c : Nat} (hc : c < 8) : ∀ x ∈ L c, 0 ≤ x := by
  intro x hx
  obtain ⟨p, hp, rfl⟩ := List.getElem_of_mem hx
  have := h.cnt c hc p hp
  rw [show (L c).getD p 0 = (L c)[p] by simp [List.getD_eq_getElem?_getD, hp]] at this
  rw [this]
  exact tsum_nonneg (fun x _ => by unfold pF; split <;> omega)
theorem En.unit {q : Int} {T : List (Int × Int)} {L : Nat → List Int} {ch n : Int} (h : En q T L ch n) (c : Int) : unitT c * tsum (kF c) T ≤ ch := by
  rw [h.hch, ← tsum_mul]
  refine tsum_le (fun x _ => ?_)
  unfold kF uF
  split
  · rename_i e; rw [e]; omega
  · have := en_nn x.1; omega
theorem En.runs {q : Int} {T : List (Int × Int)} {L : Nat → List Int} {ch n : Int} (h : En q T L ch n) : 512 * tsum rF T ≤ ch := by
  rw [h.hch, ← tsum_mul]
  refine tsum_le (fun x hx => ?_)
  unfold rF uF
  rcases h.ent x hx with h1 | h1
  · rw [if_neg (by omega)]; have := en_nn x.1; omega
  · rw [if_pos (by omega)]; have := en_run h1.1 h1.2.1; omega
theorem En.most {q : Int} {T : List (Int × Int)} {L : Nat → List Int} {ch n : Int} (h : En q T L ch n) (hq : mayB q = true) : 0 ≤ n ∧ n ≤ demT q := by
  have h1 := liveS_le (q := q) (L := L) 8 h.by_
  have h2 := h.runs
  have h3 := h.cq
  have h4 := h.hn
  have h5 : 0 ≤ tsum rF T := tsum_nonneg (fun x hx => by
    unfold rF
    split
    · rcases h.ent x hx with h1 | h1
      · omega
      · have := en_run h1.1 h1.2.1; omega
    · omega)
  have h6 : ∀ k : Nat, 0 ≤ liveS L k := by
    intro k
    induction k with
    | zero => exact Int.le_refl _
    | succ k ih => have := live_nonneg (L k); simp only [liveS]; omega
  have h7 := h6 8
  unfold demT
  rw [runs_in hq]
  omega
theorem En.ch_nn {q : Int} {T : List (Int × Int)} {L : Nat → List Int} {ch n : Int} (h : En q T L ch n) : 0 ≤ ch := by
  rw [h.hch]; exact tsum_nonneg (fun x _ => en_nn x.1)

theorem En.addRun {q : Int} {T : List (Int × Int)} {L : Nat → List Int} {ch n : Int} (h : En q T L ch n) {c : Int} (h8 : 8 ≤ c) (h23 : c ≤ 23) (hc : ch + unitT c ≤ q) :
    En q (T ++ [(c, -1)]) L (ch + unitT c) (n + pagesT c) where
  ent := fun x hx => by
    rcases List.mem_append.1 hx with hx | hx
    · exact h.ent x hx
    · simp at hx; subst hx; exact Or.inr ⟨h8, h23, rfl⟩
  cnt := fun d hd p hp => by
    rw [tsum_one, h.cnt d hd p hp]
    unfold pF
    rw [if_neg (by simp only; omega)]; omega
  sum := fun d hd => by
    rw [tsum_one, h.sum d hd]
    unfold kF
    rw [if_neg (by simp only; omega)]; omega
  hch := by rw [tsum_one, h.hch]; rfl
  cq := hc
  hn := by
    have e : rF (c, -1) = pagesT c := by unfold rF; exact if_pos h8
    rw [tsum_one, h.hn, e]; omega
  by_ := h.by_

theorem En.del {q : Int} {A B : List (Int × Int)} {x : Int × Int} {L : Nat → List Int} {ch n : Int} (h : En q (A ++ x :: B) L ch n) (h8 : 8 ≤ x.1) :
    En q (A ++ B) L (ch - unitT x.1) (n - pagesT x.1) where
  ent := fun y hy => h.ent y (by rcases List.mem_append.1 hy with hy | hy <;> simp [hy])
  cnt := fun d hd p hp => by
    rw [h.cnt d hd p hp, tsum_mid]
    unfold pF
    rw [if_neg (by omega)]; omega
  sum := fun d hd => by
    rw [h.sum d hd, tsum_mid]
    unfold kF
    rw [if_neg (by omega)]; omega
  hch := by have := h.hch; rw [tsum_mid] at this; unfold uF at this ⊢; omega
  cq := by have := h.cq; have := en_nn x.1; omega
  hn := by
    have := h.hn
    rw [tsum_mid] at this
    have e : rF x = pagesT x.1 := by unfold rF; exact if_pos h8
    omega
  by_ := h.by_


theorem getD_set_len (l : List Int) (i p : Nat) (x : Int) (hp : p < l.length) : (l.set i x).getD p 0 = if p = i then x else l.getD p 0 := by
  simp only [List.getD_eq_getElem?_getD, List.getElem?_set]
  by_cases h : p = i
  · subst h; simp [hp]
  · rw [if_neg (fun e => h e.symm), if_neg h]
theorem getD_mem' {l : List Int} {i : Nat} (h : i < l.length) : l.getD i 0 ∈ l := by
  rw [show l.getD i 0 = l[i] by simp [List.getD_eq_getElem?_getD, h]]
  exact List.getElem_mem h

/-- A small block comes. -/
theorem En.add {q : Int} {T : List (Int × Int)} {L : Nat → List Int} {ch n n' : Int} (h : En q T L ch n) (hq : mayB q = true) {c : Nat} (hc8 : c < 8) (hc : ch + unitT c ≤ q) {i : Nat} {L' : List Int}
    (s : PutSpec (L c) (perT c) i L' n n') : En q (T ++ [((c : Int), (i : Int))]) (upd L c L') (ch + unitT c) n' := by
  have hpos := h.pos hc8
  have hu := en_small (c := (c : Int)) (by omega) (by omega)
  have hlen : (L c).length ≤ L'.length ∧ i < L'.length := by
    rcases s with ⟨hi, _, rfl, _⟩ | ⟨_, _, ⟨hi, _, rfl⟩ | ⟨rfl, rfl⟩⟩
    · simp; omega
    · simp; omega
    · simp
  have hout : ∀ p : Nat, (L c).length ≤ p → tsum (pF c p) T = 0 := fun p hp => tsum_zero (fun x hx => by
    unfold pF
    refine if_neg (fun ⟨h1, h2⟩ => ?_)
    rcases h.ent x hx with h3 | h3
    · rw [h1] at h3
      simp at h3
      omega
    · omega)
  have hisum : isum L' = isum (L c) + 1 := by
    rcases s with ⟨hi, _, rfl, _⟩ | ⟨_, _, ⟨hi, h0, rfl⟩ | ⟨rfl, rfl⟩⟩
    · rw [isum_set _ _ _ hi]; omega
    · rw [isum_set _ _ _ hi, h0]; omega
    · rw [isum_append]
  have hlive : n' - n = live L' - live (L c) ∧ live L' ≤ byT c q := by
    have hb := h.by_ c hc8
    have hun := h.unit c
    rw [← h.sum c hc8] at hun
    have hfull : (∀ j, j < (L c).length → hasRoom (perT c) ((L c).getD j 0) = false) → live (L c) + 1 ≤ byT c q := by
      intro hf
      obtain ⟨b0, b1, b2, b3, b4, b5⟩ := by_ceil (c := (c : Int)) (by omega) (by omega) hq
      obtain ⟨p0, p1⟩ := per_pos (c := (c : Int)) (by omega) (by omega)
      have h1 := live_full (per := perT c) (by omega) hpos (fun x hx => by
        obtain ⟨j, hj, rfl⟩ := List.getElem_of_mem hx
        have := hf j hj
        rwa [show (L c).getD j 0 = (L c)[j] by simp [List.getD_eq_getElem?_getD, hj]] at this)
      have h2 : (isum (L c) + 1) * unitT c ≤ q := by rw [Int.add_mul, Int.mul_comm]; omega
      have h3 : isum (L c) + 1 ≤ q / unitT c := (Int.le_ediv_iff_mul_le (by omega)).2 h2
      by_cases e : byT c q ≤ live (L c)
      · exfalso
        have : byT c q * perT c ≤ live (L c) * perT c := Int.mul_le_mul_of_nonneg_right e (by omega)
        rw [Int.mul_comm] at h1
        omega
      · omega
    rcases s with ⟨hi, hr, rfl, rfl⟩ | ⟨hf, rfl, ⟨hi, h0, rfl⟩ | ⟨rfl, rfl⟩⟩
    · unfold hasRoom at hr
      simp only [Bool.and_eq_true, decide_eq_true_eq] at hr
      rw [live_set _ _ _ hi, if_pos hr.1, if_pos (by omega)]
      omega
    · have := hfull hf
      rw [live_set _ _ _ hi, h0, if_neg (by omega), if_pos (by omega)]
      omega
    · have := hfull hf
      rw [live_append, if_pos (by omega)]
      omega
  constructor
  · intro x hx
    rcases List.mem_append.1 hx with hx | hx
    · rcases h.ent x hx with h3 | h3
      · refine Or.inl ⟨h3.1, h3.2.1, h3.2.2.1, ?_⟩
        by_cases e : x.1.toNat = c
        · rw [e] at h3 ⊢; rw [upd_same]; omega
        · rw [upd_other e]; exact h3.2.2.2
      · exact Or.inr h3
    · simp at hx
      subst hx
      refine Or.inl ⟨by simp only; omega, by simp only; omega, by simp only; omega, ?_⟩
      simp only [Int.toNat_natCast]
      rw [upd_same]
      omega
  · intro d hd p hp
    rw [tsum_one]
    by_cases e : d = c
    · subst e
      rw [upd_same] at hp ⊢
      have hpi : pF d p ((d : Int), (i : Int)) = if p = i then 1 else 0 := by
        unfold pF
        by_cases e : p = i
        · rw [if_pos ⟨rfl, by rw [e]⟩, if_pos e]
        · rw [if_neg (fun h => e (by have := h.2; simp only at this; omega)), if_neg e]
      rw [hpi]
      rcases s with ⟨hi, _, rfl, _⟩ | ⟨_, _, ⟨hi, h0, rfl⟩ | ⟨rfl, rfl⟩⟩
      · rw [List.length_set] at hp
        rw [getD_set_len _ _ _ _ hp, ← h.cnt d hd p hp]
        split
        · rename_i e; rw [e]
        · omega
      · rw [List.length_set] at hp
        rw [getD_set_len _ _ _ _ hp, ← h.cnt d hd p hp]
        split
        · rename_i e; rw [e, h0]; omega
        · omega
      · by_cases e : p = (L d).length
        · rw [if_pos e, hout p (by omega), e]
          simp
        · simp at hp
          have hp' : p < (L d).length := by omega
          rw [if_neg e, ← h.cnt d hd p hp']
          simp [List.getD_eq_getElem?_getD, List.getElem?_append_left hp']
    · rw [upd_other e] at hp ⊢
      rw [h.cnt d hd p hp]
      unfold pF
      rw [if_neg (fun h => e (by have := h.1; simp only at this; omega))]
      omega
  · intro d hd
    rw [tsum_one]
    by_cases e : d = c
    · subst e
      rw [upd_same, hisum, h.sum d hd]
      unfold kF
      rw [if_pos rfl]
    · rw [upd_other e, h.sum d hd]
      unfold kF
      rw [if_neg (fun h => e (by simp only at h; omega))]
      omega
  · rw [tsum_one, h.hch]; rfl
  · exact hc
  · rw [tsum_one, liveS_upd, if_pos hc8]
    have := h.hn
    have e : rF ((c : Int), (i : Int)) = 0 := by unfold rF; exact if_neg (by simp only; omega)
    omega
  · intro d hd
    by_cases e : d = c
    · subst e; rw [upd_same]; exact hlive.2
    · rw [upd_other e]; exact h.by_ d hd

/-- A small block goes. -/
theorem En.sub {q : Int} {A B : List (Int × Int)} {L : Nat → List Int} {ch n : Int} {c p : Nat} (h : En q (A ++ ((c : Int), (p : Int)) :: B) L ch n) (hc8 : c < 8) :
    p < (L c).length ∧ 1 ≤ (L c).getD p 0 ∧
    En q (A ++ B) (upd L c ((L c).set p ((L c).getD p 0 - 1))) (ch - unitT c) (if (L c).getD p 0 - 1 = 0 then n - 1 else n) := by
  have hp : p < (L c).length := by
    rcases h.ent ((c : Int), (p : Int)) (by simp) with h3 | h3
    · have := h3.2.2.2
      simp only [Int.toNat_natCast] at this
      omega
    · have := h3.1; simp only at this; omega
  have hx : 1 ≤ (L c).getD p 0 := by
    rw [h.cnt c hc8 p hp, tsum_mid]
    have h1 : 0 ≤ tsum (pF c p) (A ++ B) := tsum_nonneg (fun x _ => by unfold pF; split <;> omega)
    have h2 : pF c p ((c : Int), (p : Int)) = 1 := by unfold pF; exact if_pos ⟨rfl, rfl⟩
    omega
  refine ⟨hp, hx, ?_⟩
  have hl := live_set (L c) p ((L c).getD p 0 - 1) hp
  rw [if_pos (by omega : (0 : Int) < (L c).getD p 0)] at hl
  constructor
  · intro x hxm
    rcases h.ent x (by rcases List.mem_append.1 hxm with hy | hy <;> simp [hy]) with h3 | h3
    · refine Or.inl ⟨h3.1, h3.2.1, h3.2.2.1, ?_⟩
      by_cases e : x.1.toNat = c
      · rw [e] at h3 ⊢; rw [upd_same, List.length_set]; exact h3.2.2.2
      · rw [upd_other e]; exact h3.2.2.2
    · exact Or.inr h3
  · intro d hd j hj
    by_cases e : d = c
    · subst e
      rw [upd_same] at hj ⊢
      rw [List.length_set] at hj
      rw [getD_set_len _ _ _ _ hj]
      have h1 := h.cnt d hd j hj
      rw [tsum_mid] at h1
      have hpi : pF d j ((d : Int), (p : Int)) = if j = p then 1 else 0 := by
        unfold pF
        by_cases e : j = p
        · rw [if_pos ⟨rfl, by rw [e]⟩, if_pos e]
        · rw [if_neg (fun h => e (by have := h.2; simp only at this; omega)), if_neg e]
      rw [hpi] at h1
      split
      · rename_i e; subst e; rw [if_pos rfl] at h1; omega
      · rename_i e; rw [if_neg e] at h1; omega
    · rw [upd_other e] at hj ⊢
      have h1 := h.cnt d hd j hj
      rw [tsum_mid] at h1
      have : pF d j ((c : Int), (p : Int)) = 0 := by unfold pF; exact if_neg (fun h => e (by have := h.1; simp only at this; omega))
      omega
  · intro d hd
    have h1 := h.sum d hd
    rw [tsum_mid] at h1
    by_cases e : d = c
    · subst e
      rw [upd_same, isum_set _ _ _ hp]
      have : kF d ((d : Int), (p : Int)) = 1 := by unfold kF; exact if_pos rfl
      omega
    · rw [upd_other e]
      have : kF d ((c : Int), (p : Int)) = 0 := by unfold kF; exact if_neg (fun h => e (by simp only at h; omega))
      omega
  · have := h.hch; rw [tsum_mid] at this; unfold uF at this ⊢; simp only at this; omega
  · have := h.cq; have := en_nn c; omega
  · have h1 := h.hn
    rw [tsum_mid] at h1
    have h2 : rF ((c : Int), (p : Int)) = 0 := by unfold rF; exact if_neg (by simp only; omega)
    rw [liveS_upd, if_pos hc8, hl]
    split
    · rename_i e; rw [e]; rw [if_neg (by omega)]; omega
    · rw [if_pos (by omega)]; omega
  · intro d hd
    by_cases e : d = c
    · subst e
      rw [upd_same, hl]
      have := h.by_ d hd
      split <;> omega
    · rw [upd_other e]; exact h.by_ d hd

/-- Bounds that the walk wants. -/
theorem En.small {q : Int} {T : List (Int × Int)} {L : Nat → List Int} {ch n : Int} (h : En q T L ch n) (hq : mayB q = true) {c : Nat} (hc : c < 8) : ∀ x ∈ L c, 0 ≤ x ∧ x ≤ 1000000 := by
  intro x hx
  refine ⟨h.pos hc x hx, ?_⟩
  have hle : ∀ {l : List Int}, (∀ y ∈ l, 0 ≤ y) → ∀ y ∈ l, y ≤ isum l := by
    intro l
    induction l with
    | nil => intro _ y hy; cases hy
    | cons z l ih =>
      intro h0 y hy
      have h1 := ih (fun y hy => h0 y (List.mem_cons_of_mem _ hy))
      have h2 := h0 z (List.mem_cons_self ..)
      have h3 : 0 ≤ isum l := by
        have : ∀ {l : List Int}, (∀ y ∈ l, 0 ≤ y) → 0 ≤ isum l := by
          intro l
          induction l with
          | nil => intro _; exact Int.le_refl _
          | cons a l ih => intro h; have h1 := ih (fun y hy => h y (List.mem_cons_of_mem _ hy)); have h2 := h a (List.mem_cons_self ..); simp only [isum]; omega
        exact this (fun y hy => h0 y (List.mem_cons_of_mem _ hy))
      simp only [isum]
      rcases List.mem_cons.1 hy with rfl | hy
      · omega
      · have := h1 y hy; omega
  have h1 := hle (h.pos hc) x hx
  have h2 := h.unit c
  rw [← h.sum c hc] at h2
  have h3 := en_small (c := (c : Int)) (by omega) (by omega)
  have h4 := h.cq
  have h5 := may_iff.1 hq
  have h6 : 16 * isum (L c) ≤ unitT c * isum (L c) := Int.mul_le_mul_of_nonneg_right h3 (by have := h.pos hc x hx; omega)
  omega

end Go.Proofs.Ytjjdnmlfhankjaa
