/- The contract of garthlaw05.put: a block into one of the pages that have room, or into a new one. -/
import Derived.Test.YtjjdnmlfhankjaaProg
import Derived.Test.YtjjdnmlfhankjaaOnly
import Derived.WalkKit
import Derived.WalkSpells
import Derived.WalkLawsBesides
import Derived.Lib.Hide
import Derived.KernelRfl
import Derived.Deep.AppendLies
namespace Go.Proofs.Ytjjdnmlfhankjaa
open Go.RowKit
set_option linter.unusedVariables false

theorem infoInt : (Try.prog.info? 3).map (fun i => (i.zero, i.size, i.bytes)) = some (some (.int .i64 0), 1, 8) := by kernel_rfl

def hasRoom (per : Int) (x : Int) : Bool := decide (0 < x) && decide (x < per)
/-- The pages that have room, of the first k. -/
def rm (L : List Int) (per : Int) (k : Nat) : List Nat := (List.range k).filter fun j => hasRoom per (L.getD j 0)
theorem rm_succ_yes {L : List Int} {per : Int} {k : Nat} (h : hasRoom per (L.getD k 0) = true) : rm L per (k + 1) = rm L per k ++ [k] := by
  unfold rm; rw [List.range_succ, List.filter_append]; simp only [List.filter_cons, h, if_true, List.filter_nil]
theorem rm_succ_no {L : List Int} {per : Int} {k : Nat} (h : hasRoom per (L.getD k 0) = false) : rm L per (k + 1) = rm L per k := by
  unfold rm; rw [List.range_succ, List.filter_append]; simp only [List.filter_cons, h, List.filter_nil, Bool.false_eq_true, if_false, List.append_nil]
theorem rm_len (L : List Int) (per : Int) (k : Nat) : (rm L per k).length ≤ k := by
  have := List.length_filter_le (fun j => hasRoom per (L.getD j 0)) (List.range k)
  rw [List.length_range] at this; exact this
theorem rm_mem {L : List Int} {per : Int} {k j : Nat} (h : j ∈ rm L per k) : j < k ∧ hasRoom per (L.getD j 0) = true := by
  unfold rm at h
  rw [List.mem_filter, List.mem_range] at h
  exact h
theorem rm_none {L : List Int} {per : Int} {k : Nat} (h : rm L per k = []) : ∀ j, j < k → hasRoom per (L.getD j 0) = false := by
  intro j hj
  unfold rm at h
  have := List.filter_eq_nil_iff.1 h j (List.mem_range.2 hj)
  simpa using this

/-- What put does to the pages of a kind: block in page i. -/
def PutSpec (L : List Int) (per : Int) (i : Nat) (L' : List Int) (n n' : Int) : Prop :=
  (i < L.length ∧ hasRoom per (L.getD i 0) = true ∧ L' = L.set i (L.getD i 0 + 1) ∧ n' = n) ∨
  ((∀ j, j < L.length → hasRoom per (L.getD j 0) = false) ∧ n' = n + 1 ∧ ((i < L.length ∧ L.getD i 0 = 0 ∧ L' = L.set i 1) ∨ (i = L.length ∧ L' = L ++ [1])))

/-- What is known of memory ahead of the call, and behind it. -/
structure Pages (w : World) (base pb po nb : Nat) (v : Value) (L : List Int) (n : Int) : Prop where
  p : w.cell? ⟨pb, po, none⟩ = some v
  pf : w.frozen? ⟨pb, po, none⟩ = false
  n : w.cell? ⟨nb, 0, none⟩ = some (.int .i64 n)
  nf : w.frozen? ⟨nb, 0, none⟩ = false
  own : w.ownsRow base 3 1 v L.length (L.map (Value.int .i64))
  np : v.ownBlock ≠ some pb
  nn : v.ownBlock ≠ some nb

def PutPost (w : World) (base pb po nb : Nat) (v : Value) (L : List Int) (n per : Int) (e : Ending) (w' : World) : Prop :=
  ∃ (i : Nat) (v' : Value) (L' : List Int) (n' : Int), e = .returned (.int .i64 i) ∧ PutSpec L per i L' n n' ∧ Pages w' base pb po nb v' L' n' ∧
    Only (fun b => b = pb ∨ b = nb ∨ v.ownBlock = some b) w w' ∧ (v'.ownBlock = v.ownBlock ∨ ∀ g, v'.ownBlock = some g → w.heap.size ≤ g) ∧
    (∀ o u, o ≠ po → w.cell? ⟨pb, o, none⟩ = some u → w'.cell? ⟨pb, o, none⟩ = some u ∧ w'.frozen? ⟨pb, o, none⟩ = w.frozen? ⟨pb, o, none⟩)

theorem own_room {w : World} {base g cap n : Nat} {R : List Nat} (h : w.ownsRow base 3 1 (.slice (some ⟨g, 0, none⟩) n cap) n (R.map fun j => Value.int .i64 (j : Nat))) {t : Nat} (ht : t < R.length) :
    w.cell? ⟨g, t, none⟩ = some (.int .i64 (R[t] : Nat)) := by
  have hl : R.length = n := by have := h.1; simpa using this
  rw [h.cellAt t (by omega)]
  simp [ht]

set_option maxHeartbeats 2000000 in
set_option maxRecDepth 100000 in
theorem put_row (w : World) (base pb po nb g len cap : Nat) (L : List Int) (n per : Int) (k : Nat) (hL : L.length ≤ 100000) (hper : 0 ≤ per ∧ per ≤ 100) (hx : ∀ x ∈ L, 0 ≤ x ∧ x ≤ 1000000) (hn : 0 ≤ n ∧ n ≤ 1000000) (hk : k ≤ 1000000) (hne : pb ≠ nb)
    (hb0 : base ≤ w.heap.size) (H : Pages w base pb po nb (.slice (some ⟨g, 0, none⟩) len cap) L n) :
    Calls Try.prog 21 #[.pointer (some ⟨pb, po, none⟩), .int .i64 per, .int .i64 k, .pointer (some ⟨nb, 0, none⟩)] w (PutPost w base pb po nb (.slice (some ⟨g, 0, none⟩) len cap) L n per) := by
  obtain ⟨i0, hi, hz0, hz1, hz2⟩ := info_parts infoInt
  obtain ⟨hp, hpf, hnc, hnf, hown, hnp, hnn⟩ := H
  have hl : L.length = len := by have := hown.1; rcases hown.2 with ⟨q, _⟩ | ⟨g', c', cur, q, _⟩
                                 · cases q
                                 · simp only [Value.slice.injEq] at q; exact q.2.1.symm
  subst hl
  have hcell := Lib.hid (fun (j : Nat) (hj : j < L.length) => own_ints hown hj)
  have hpb := block_lt hp
  have hnb := block_lt hnc
  obtain ⟨p0, p1⟩ := hper
  obtain ⟨n0, n1⟩ := hn
  go_enter Try.func21, Try.ntmps21
  go_wp2
  go_loopw [9, 19] (fun r i wr => ∃ j : Nat, j ≤ L.length ∧ i = .int .i64 j ∧ wr.ownsRow w.heap.size 3 1 r (rm L per j).length ((rm L per j).map fun q => Value.int .i64 (q : Nat)) ∧ Only (fun _ => False) w wr) (fun _ i _ => L.length - (intOf i).toNat)
  case atStart => exact ⟨0, Nat.zero_le _, rfl, World.ownsRow_nil _ _ _ _, Only.refl _ _⟩
  case round =>
    obtain ⟨j, hj, rfl, hr, ho⟩ := hrel
    by_cases hlt : j < L.length
    · have hc := ho.cell (hcell.out j hlt) (fun q => q)
      have hxj := hx L[j] (List.getElem_mem hlt)
      obtain ⟨x0, x1⟩ := hxj
      have hgd : L.getD j 0 = L[j] := by simp [List.getD_eq_getElem?_getD, hlt]
      have hrl := rm_len L per j
      by_cases h1 : 0 < L[j]
      · by_cases h2 : L[j] < per
        · have hroom := Lib.hid (rm_succ_yes (L := L) (per := per) (k := j) (by rw [hgd]; unfold hasRoom; rw [decide_eq_true h1, decide_eq_true h2]; rfl))
          replace hgd := Lib.hid hgd
          generalize L[j] = x at *
          go_wp2_with (at_builtin; refine wpList_append_own _ rfl _ _ 36 rfl w.heap.size 3 i0 (.int .i64 0) 1 8 Try.underlying36 hi hz0 hz1 hz2 rfl (by decide) _ _ _ rfl (hr.alloc _) ⟨wr.heap.size, 0, none⟩ 1 1 [.int .i64 (j : Nat)] rfl rfl ?c1 ?c2 ?c3 ?c4 ?c5 ?_)
          case c1 =>
            intro q u hq
            match q, hq with
            | 0, hq => simp at hq; subst hq; simp [Addr.add]
          case c2 => intro u hu; simp at hu; subst hu; rfl
          case c3 => unfold maxLen; omega
          case c4 => omega
          case c5 => have := ho.size; simp; omega
          intro v' w1 hr1 hg1 _
          have ho1 := (ho.alloc (.cells #[.int .i64 (j : Nat)] 3)).grown hg1 (fun q hq hlt' => by have := (hr.lt q hq).1; omega)
          clear hg1 hr
          go_wp2
          go_roundw
          case rel => exact ⟨j + 1, hlt, by go_num, by rw [hroom.out]; simpa using hr1, ho1⟩
          case measure => simp [intOf]; omega
        · have hroom := Lib.hid (rm_succ_no (L := L) (per := per) (k := j) (by rw [hgd]; unfold hasRoom; rw [decide_eq_false h2]; simp))
          replace hgd := Lib.hid hgd
          generalize L[j] = x at *
          go_wp2
          go_roundw
          case rel => exact ⟨j + 1, hlt, by go_num, by rw [hroom.out]; exact hr, ho⟩
          case measure => simp [intOf]; omega
      · have hroom := Lib.hid (rm_succ_no (L := L) (per := per) (k := j) (by rw [hgd]; unfold hasRoom; rw [decide_eq_false h1]; simp))
        replace hgd := Lib.hid hgd
        generalize L[j] = x at *
        go_wp2
        go_roundw
        case rel => exact ⟨j + 1, hlt, by go_num, by rw [hroom.out]; exact hr, ho⟩
        case measure => simp [intOf]; omega
    · obtain rfl : j = L.length := by omega
      have hpr := ho.cell hp (fun q => q)
      have hprf := (ho.frozen (p := ⟨pb, po, none⟩) hpb (fun q => q)).trans hpf
      have hnr := ho.cell hnc (fun q => q)
      have hnrf := (ho.frozen (p := ⟨nb, 0, none⟩) hnb (fun q => q)).trans hnf
      have hownr := ho.owns hown (fun _ _ q => q)
      have hgb : g < w.heap.size := (hown.lt g rfl).2
      by_cases hR : 0 < (rm L per L.length).length
      · rcases hr.2 with ⟨_, q⟩ | ⟨g2, cap2, cur2, rfl, hg2, _⟩
        · exact absurd q (by omega)
        have hRl := rm_len L per L.length
        have ht : k % (rm L per L.length).length < (rm L per L.length).length := Nat.mod_lt _ hR
        have hc1 := own_room hr ht
        obtain ⟨hi1, hi2⟩ := rm_mem (List.getElem_mem ht)
        have hmod : ((k : Int) % ((rm L per L.length).length : Int)) = ((k % (rm L per L.length).length : Nat) : Int) := by omega
        have hmod2 := hmod
        generalize (rm L per L.length)[k % (rm L per L.length).length] = i at *
        generalize k % (rm L per L.length).length = t at *
        generalize (rm L per L.length).length = m at *
        have hc2 := ho.cell (hcell.out i hi1) (fun q => q)
        have hgd : L.getD i 0 = L[i] := by simp [List.getD_eq_getElem?_getD, hi1]
        obtain ⟨x0, x1⟩ := hx L[i] (List.getElem_mem hi1)
        have hst := hownr.stored i (.int .i64 (L[i] + 1))
        have hcf := hownr.frozenAt i
        have hset : (L.map (Value.int .i64)).set i (.int .i64 (L[i] + 1)) = (L.set i (L[i] + 1)).map (Value.int .i64) := (map_set _ _ _ _).symm
        rw [hset] at hst
        have HS := Lib.hid (show PutSpec L per i (L.set i (L[i] + 1)) n n from .inl ⟨hi1, hi2, by rw [hgd], rfl⟩)
        replace hgd := Lib.hid hgd
        replace hst := Lib.hid hst
        replace hi2 := Lib.hid hi2
        clear hmod2 hset hR hownr
        have hgp : g ≠ pb := fun e => hnp (by rw [e]; rfl)
        have hgn : g ≠ nb := fun e => hnn (by rw [e]; rfl)
        go_wp2
        go_ret
        refine ⟨i, .slice (some ⟨g, 0, none⟩) L.length cap, L.set i (L[i] + 1), n, rfl, HS.out, ⟨keep_set (addr_ne hgp) hpr, keepf_set hprf, keep_set (addr_ne hgn) hnr, keepf_set hnrf, by rw [List.length_set]; exact hst.out.1, hnp, hnn⟩,
          (ho.mono (fun _ _ h => h.elim)).setCell (p := ⟨g, i, none⟩) (fun _ => .inr (.inr rfl)) _, .inl rfl, fun o u hou hu => ⟨keep_set (addr_ne hgp) (ho.cell hu (fun q => q)), ?_⟩⟩
        exact (World.frozen?_setCell _ _ _ _).trans (ho.frozen (p := ⟨pb, o, none⟩) hpb (fun q => q))
      · have hR0 : rm L per L.length = [] := List.eq_nil_of_length_eq_zero (by omega)
        have hno := Lib.hid (rm_none hR0)
        rw [hR0] at hr
        have hr2 : (u9 = .slice none 0 0) ∨ ∃ g2 cap2, u9 = .slice (some ⟨g2, 0, none⟩) 0 cap2 := by
          rcases hr.2 with ⟨q, _⟩ | ⟨g2, cap2, _, q, _⟩
          · exact .inl q
          · exact .inr ⟨g2, cap2, q⟩
        clear hr hR hR0 hx
        have hne' : (⟨nb, 0, none⟩ : Addr) ≠ ⟨pb, po, none⟩ := addr_ne (Ne.symm hne)
        have ho2 := (ho.mono (cs := fun b => b = pb ∨ b = nb ∨ g = b) (fun _ _ h => h.elim)).setCell (p := ⟨nb, 0, none⟩) (fun _ => .inr (.inl rfl)) (.int .i64 (n + 1))
        have hoth : ∀ o u, o ≠ po → w.cell? ⟨pb, o, none⟩ = some u → (wr.setCell ⟨nb, 0, none⟩ (.int .i64 (n + 1))).cell? ⟨pb, o, none⟩ = some u ∧ (wr.setCell ⟨nb, 0, none⟩ (.int .i64 (n + 1))).frozen? ⟨pb, o, none⟩ = w.frozen? ⟨pb, o, none⟩ :=
          fun o u _ hu => ⟨keep_set (addr_ne (Ne.symm hne)) (ho.cell hu (fun q => q)), (World.frozen?_setCell _ _ _ _).trans (ho.frozen (p := ⟨pb, o, none⟩) hpb (fun q => q))⟩
        have hW : (wr.setCell ⟨nb, 0, none⟩ (.int .i64 (n + 1))).cell? ⟨pb, po, none⟩ = some (.slice (some ⟨g, 0, none⟩) L.length cap) ∧ (wr.setCell ⟨nb, 0, none⟩ (.int .i64 (n + 1))).frozen? ⟨pb, po, none⟩ = false ∧
            (wr.setCell ⟨nb, 0, none⟩ (.int .i64 (n + 1))).cell? ⟨nb, 0, none⟩ = some (.int .i64 (n + 1)) ∧ (wr.setCell ⟨nb, 0, none⟩ (.int .i64 (n + 1))).frozen? ⟨nb, 0, none⟩ = false ∧
            (wr.setCell ⟨nb, 0, none⟩ (.int .i64 (n + 1))).ownsRow base 3 1 (.slice (some ⟨g, 0, none⟩) L.length cap) L.length (L.map (Value.int .i64)) :=
          ⟨keep_set hne' hpr, keepf_set hprf, set_same (is_of hnr), keepf_set hnrf, ownsRow_setCell_other hownr hnn _⟩
        replace hW := Lib.hid hW
        replace ho2 := Lib.hid ho2
        replace hoth := Lib.hid hoth
        clear hownr hne'
        rcases hr2 with rfl | ⟨g2, cap2, rfl⟩
        all_goals
          go_wp2
          refine wp_name (fun W => W.cell? ⟨pb, po, none⟩ = some (.slice (some ⟨g, 0, none⟩) L.length cap) ∧ W.frozen? ⟨pb, po, none⟩ = false ∧ W.cell? ⟨nb, 0, none⟩ = some (.int .i64 (n + 1)) ∧ W.frozen? ⟨nb, 0, none⟩ = false ∧
            W.ownsRow base 3 1 (.slice (some ⟨g, 0, none⟩) L.length cap) L.length (L.map (Value.int .i64)) ∧ Only (fun b => b = pb ∨ b = nb ∨ g = b) w W ∧
            (∀ o u, o ≠ po → w.cell? ⟨pb, o, none⟩ = some u → W.cell? ⟨pb, o, none⟩ = some u ∧ W.frozen? ⟨pb, o, none⟩ = w.frozen? ⟨pb, o, none⟩)) ⟨hW.out.1, hW.out.2.1, hW.out.2.2.1, hW.out.2.2.2.1, hW.out.2.2.2.2, ho2.out, hoth.out⟩ ?_
          clear hW ho2 hoth hpr hprf hnr hnrf hcell
          rintro W2 ⟨wp, wpf, wn, wnf, wown, wo, woth⟩
          replace woth := Lib.hid woth
          have hgp : g ≠ pb := fun e => hnp (by rw [e]; rfl)
          have hgn : g ≠ nb := fun e => hnn (by rw [e]; rfl)
          go_loop [64] (fun i => ∃ j : Nat, j ≤ L.length ∧ i = .int .i64 j ∧ ∀ q, q < j → L.getD q 0 ≠ 0) (fun i => L.length - (intOf i).toNat)
          case atStart => exact ⟨0, Nat.zero_le _, rfl, fun q hq => by omega⟩
          case round =>
            obtain ⟨j, hj, rfl, hz⟩ := hrel
            replace hz := Lib.hid hz
            by_cases hlt : j < L.length
            · have hc := own_ints wown hlt
              have hgd : L.getD j 0 = L[j] := by simp [List.getD_eq_getElem?_getD, hlt]
              by_cases hx0 : L[j] = 0
              · have hst := wown.stored j (.int .i64 1)
                have hcf := wown.frozenAt j
                have hset : (L.map (Value.int .i64)).set j (.int .i64 1) = (L.set j 1).map (Value.int .i64) := (map_set _ _ _ _).symm
                rw [hset] at hst
                have HS := Lib.hid (show PutSpec L per j (L.set j 1) n (n + 1) from .inr ⟨hno.out, rfl, .inl ⟨hlt, by rw [hgd, hx0], rfl⟩⟩)
                have hx1 : (L[j] == 0) = true := beq_iff_eq.2 hx0
                replace hst := Lib.hid hst
                clear hset hgd hx0
                generalize L[j] = x at *
                go_wp2
                go_ret
                refine ⟨j, .slice (some ⟨g, 0, none⟩) L.length cap, L.set j 1, n + 1, rfl, HS.out, ⟨keep_set (addr_ne hgp) wp, keepf_set wpf, keep_set (addr_ne hgn) wn, keepf_set wnf, by rw [List.length_set]; exact hst.out.1, hnp, hnn⟩,
                  (wo.mono (fun b _ h => h.imp id (fun h => h.imp id (fun h => by rw [h]; rfl)))).setCell (p := ⟨g, j, none⟩) (fun _ => .inr (.inr rfl)) _, .inl rfl, fun o u hou hu => ⟨keep_set (addr_ne hgp) (woth.out o u hou hu).1, ?_⟩⟩
                exact (World.frozen?_setCell _ _ _ _).trans (woth.out o u hou hu).2
              · have hx1 : (L[j] == 0) = false := beq_eq_false_iff_ne.2 hx0
                have hz' := Lib.hid (show ∀ q, q < j + 1 → L.getD q 0 ≠ 0 from fun q hq => by
                  by_cases e : q = j
                  · rw [e, hgd]; exact hx0
                  · exact hz.out q (by omega))
                clear hgd hx0
                generalize L[j] = x at *
                go_wp2
                go_round
                case rel => exact ⟨j + 1, hlt, by go_num, hz'.out⟩
                case measure => simp [intOf]; omega
            · obtain rfl : j = L.length := by omega
              have HS := Lib.hid (show PutSpec L per L.length (L ++ [1]) n (n + 1) from .inr ⟨hno.out, rfl, .inr ⟨rfl, rfl⟩⟩)
              clear hz
              have k2 : ∀ u ∈ [Value.int .i64 1], u.oneCell' = true := by intro u hu; simp at hu; subst hu; rfl
              have k3 : L.length + 1 ≤ maxLen := by unfold maxLen; omega
              have k4 : (L.length + 1) * 8 ≤ 140737488355328 := by omega
              have k5 : base ≤ W2.heap.size + 1 := by have := wo.size; omega
              replace k2 := Lib.hid k2
              replace k3 := Lib.hid k3
              replace k4 := Lib.hid k4
              replace k5 := Lib.hid k5
              go_wp2_with (at_builtin; refine wpList_append_lies _ rfl _ _ 36 rfl base 3 i0 (.int .i64 0) 1 8 Try.underlying36 hi hz0 hz1 hz2 rfl (by decide) _ _ _ rfl (wown.alloc _) ⟨W2.heap.size, 0, none⟩ 1 1 [.int .i64 1] rfl rfl (cell_one_new _ _ _) k2.out (by decide) k3.out k4.out (by simp only [World.size_alloc]; exact k5.out) (W2.heap.size + 1) (by simp only [World.size_alloc]) ?_)
              intro g3 cap3 w1 hr1 hg1 hg3 hlt3
              have hwb : pb < W2.heap.size := block_lt wp
              have hwn : nb < W2.heap.size := block_lt wn
              have hws := wo.size
              have q1 := hg1.cell (keep_alloc wp) (fun e => hgp (Option.some.inj e).symm)
              have q2 : w1.frozen? ⟨pb, po, none⟩ = false := (World.frozen?_of_block (hg1.block pb (by simp; omega) (fun e => hgp (Option.some.inj e).symm))).trans (keepf_alloc (by exact hwb) wpf)
              have q3 := hg1.cell (keep_alloc wn) (fun e => hgn (Option.some.inj e).symm)
              have q4 : w1.frozen? ⟨nb, 0, none⟩ = false := (World.frozen?_of_block (hg1.block nb (by simp; omega) (fun e => hgn (Option.some.inj e).symm))).trans (keepf_alloc (by exact hwn) wnf)
              have q5 := Lib.hid ((wo.alloc (.cells #[.int .i64 1] 3)).grown hg1 (fun q hq _ => .inr (.inr (Option.some.inj hq))))
              have q6 : g3 = g ∨ g3 = W2.heap.size + 1 := hg3.imp (fun e => (Option.some.inj e).symm) id
              have q7 : g3 ≠ pb := by omega
              have q8 : g3 ≠ nb := by omega
              have q9 := Lib.hid (fun (o : Nat) (u : Value) (hou : o ≠ po) (hu : w.cell? ⟨pb, o, none⟩ = some u) => (show w1.cell? ⟨pb, o, none⟩ = some u ∧ w1.frozen? ⟨pb, o, none⟩ = w.frozen? ⟨pb, o, none⟩ from
                ⟨hg1.cell (keep_alloc (woth.out o u hou hu).1) (fun e => hgp (Option.some.inj e).symm),
                 (World.frozen?_of_block (hg1.block pb (by simp; omega) (fun e => hgp (Option.some.inj e).symm))).trans ((World.frozen?_alloc_old _ _ _ (by exact Nat.ne_of_lt hwb)).trans (woth.out o u hou hu).2)⟩))
              have q7' : (Value.slice (some ⟨g3, 0, none⟩) (L.length + 1) cap3).ownBlock ≠ some pb := fun e => q7 (Option.some.inj e)
              have hr2 : w1.ownsRow base 3 1 (.slice (some ⟨g3, 0, none⟩) (L.length + 1) cap3) (L ++ [1]).length ((L ++ [1]).map (Value.int .i64)) := by simpa using hr1
              replace hr2 := Lib.hid hr2
              replace q7' := Lib.hid q7'
              clear hr1 hg1 hg3 k2 k3 k4 k5 wown wo wp wpf wn wnf woth
              replace q6 := Lib.hid q6
              go_wp2
              go_ret
              refine ⟨L.length, .slice (some ⟨g3, 0, none⟩) (L.length + 1) cap3, L ++ [1], n + 1, rfl, HS.out, ⟨set_same (is_of q1), keepf_set q2, keep_set (addr_ne hne) q3, keepf_set q4, ownsRow_setCell_other hr2.out q7'.out _, q7'.out, fun e => q8 (Option.some.inj e)⟩,
                (q5.out.mono (fun b _ h => h.imp id (fun h => h.imp id (fun h => by rw [h]; rfl)))).setCell (p := ⟨pb, po, none⟩) (fun _ => .inl rfl) _, ?_, fun o u hou hu => ⟨keep_set (fun e => hou (congrArg Addr.off e).symm) (q9.out o u hou hu).1, (World.frozen?_setCell _ _ _ _).trans (q9.out o u hou hu).2⟩⟩
              rcases q6.out with e | e
              · exact .inl (by rw [e]; rfl)
              · exact .inr (fun g' hg' => by have := Option.some.inj hg'; simp only at this; omega)

set_option maxHeartbeats 1000000 in
set_option maxRecDepth 100000 in
theorem put_nil (w : World) (base pb po nb : Nat) (n per : Int) (k : Nat) (hn : 0 ≤ n ∧ n ≤ 1000000) (hne : pb ≠ nb)
    (hb0 : base ≤ w.heap.size) (H : Pages w base pb po nb (.slice none 0 0) [] n) :
    Calls Try.prog 21 #[.pointer (some ⟨pb, po, none⟩), .int .i64 per, .int .i64 k, .pointer (some ⟨nb, 0, none⟩)] w (PutPost w base pb po nb (.slice none 0 0) [] n per) := by
  obtain ⟨i0, hi, hz0, hz1, hz2⟩ := info_parts infoInt
  obtain ⟨hp, hpf, hnc, hnf, hown, hnp, hnn⟩ := H
  have hpb := block_lt hp
  have hnb := block_lt hnc
  obtain ⟨n0, n1⟩ := hn
  have hne' : (⟨nb, 0, none⟩ : Addr) ≠ ⟨pb, po, none⟩ := addr_ne (Ne.symm hne)
  have HS := Lib.hid (show PutSpec [] per 0 [1] n (n + 1) from .inr ⟨fun j hj => by simp at hj, rfl, .inr ⟨rfl, rfl⟩⟩)
  have hS : Hid ((w.setCell ⟨nb, 0, none⟩ (.int .i64 (n + 1))).cell? ⟨pb, po, none⟩ = some (.slice none 0 0) ∧ (w.setCell ⟨nb, 0, none⟩ (.int .i64 (n + 1))).frozen? ⟨pb, po, none⟩ = false ∧
      (w.setCell ⟨nb, 0, none⟩ (.int .i64 (n + 1))).cell? ⟨nb, 0, none⟩ = some (.int .i64 (n + 1)) ∧ (w.setCell ⟨nb, 0, none⟩ (.int .i64 (n + 1))).frozen? ⟨nb, 0, none⟩ = false ∧
      Only (fun b => b = pb ∨ b = nb ∨ (Value.slice none 0 0).ownBlock = some b) w (w.setCell ⟨nb, 0, none⟩ (.int .i64 (n + 1))) ∧
      (∀ o u, o ≠ po → w.cell? ⟨pb, o, none⟩ = some u → (w.setCell ⟨nb, 0, none⟩ (.int .i64 (n + 1))).cell? ⟨pb, o, none⟩ = some u ∧ (w.setCell ⟨nb, 0, none⟩ (.int .i64 (n + 1))).frozen? ⟨pb, o, none⟩ = w.frozen? ⟨pb, o, none⟩)) :=
    Lib.hid ⟨keep_set hne' hp, keepf_set hpf, set_same (is_of hnc), keepf_set hnf, (Only.refl _ _).setCell (p := ⟨nb, 0, none⟩) (fun _ => .inr (.inl rfl)) _,
      fun o u _ hu => ⟨keep_set (addr_ne (Ne.symm hne)) hu, World.frozen?_setCell _ _ _ _⟩⟩
  clear hne'
  go_enter Try.func21, Try.ntmps21
  go_wp2
  go_loop [9, 19] (fun r i => r = .slice none 0 0 ∧ i = .int .i64 0) (fun _ _ => 0)
  case atStart => exact ⟨rfl, rfl⟩
  case round =>
    obtain ⟨rfl, rfl⟩ := hrel
    go_wp2
    refine wp_name (fun W => W.cell? ⟨pb, po, none⟩ = some (.slice none 0 0) ∧ W.frozen? ⟨pb, po, none⟩ = false ∧ W.cell? ⟨nb, 0, none⟩ = some (.int .i64 (n + 1)) ∧ W.frozen? ⟨nb, 0, none⟩ = false ∧
      Only (fun b => b = pb ∨ b = nb ∨ (Value.slice none 0 0).ownBlock = some b) w W ∧
      (∀ o u, o ≠ po → w.cell? ⟨pb, o, none⟩ = some u → W.cell? ⟨pb, o, none⟩ = some u ∧ W.frozen? ⟨pb, o, none⟩ = w.frozen? ⟨pb, o, none⟩)) hS.out ?_
    clear hS
    rintro W2 ⟨wp, wpf, wn, wnf, wo, woth⟩
    replace woth := Lib.hid woth
    go_loop [64] (fun i => i = .int .i64 0) (fun _ => 0)
    case atStart => exact rfl
    case round =>
      obtain rfl := hrel
      have hws := wo.size
      have k2 : ∀ u ∈ [Value.int .i64 1], u.oneCell' = true := by intro u hu; simp at hu; subst hu; rfl
      have k5 : base ≤ W2.heap.size + 1 := by omega
      replace k2 := Lib.hid k2
      replace k5 := Lib.hid k5
      go_wp2_with (at_builtin; refine wpList_append_lies _ rfl _ _ 36 rfl base 3 i0 (.int .i64 0) 1 8 Try.underlying36 hi hz0 hz1 hz2 rfl (by decide) _ _ _ rfl (World.ownsRow_nil _ _ _ _) ⟨W2.heap.size, 0, none⟩ 1 1 [.int .i64 1] rfl rfl (cell_one_new _ _ _) k2.out (by decide) (by decide) (by decide) (by simp only [World.size_alloc]; exact k5.out) (W2.heap.size + 1) (by simp only [World.size_alloc]) ?_)
      intro g3 cap3 w1 hr1 hg1 hg3 hlt3
      have hwb : pb < W2.heap.size := block_lt wp
      have hwn : nb < W2.heap.size := block_lt wn
      have q1 := hg1.cell (keep_alloc wp) (fun e => by cases e)
      have q2 : w1.frozen? ⟨pb, po, none⟩ = false := (World.frozen?_of_block (hg1.block pb (by simp; omega) (fun e => by cases e))).trans (keepf_alloc (by exact hwb) wpf)
      have q3 := hg1.cell (keep_alloc wn) (fun e => by cases e)
      have q4 : w1.frozen? ⟨nb, 0, none⟩ = false := (World.frozen?_of_block (hg1.block nb (by simp; omega) (fun e => by cases e))).trans (keepf_alloc (by exact hwn) wnf)
      have q5 := Lib.hid ((wo.alloc (.cells #[.int .i64 1] 3)).grown hg1 (fun q hq _ => by cases hq))
      have q6 : g3 = W2.heap.size + 1 := hg3.elim (fun e => by cases e) id
      have q7 : g3 ≠ pb := by omega
      have q8 : g3 ≠ nb := by omega
      have q9 := Lib.hid (fun (o : Nat) (u : Value) (hou : o ≠ po) (hu : w.cell? ⟨pb, o, none⟩ = some u) => (show w1.cell? ⟨pb, o, none⟩ = some u ∧ w1.frozen? ⟨pb, o, none⟩ = w.frozen? ⟨pb, o, none⟩ from
        ⟨hg1.cell (keep_alloc (woth.out o u hou hu).1) (fun e => by cases e),
         (World.frozen?_of_block (hg1.block pb (by simp; omega) (fun e => by cases e))).trans ((World.frozen?_alloc_old _ _ _ (by exact Nat.ne_of_lt hwb)).trans (woth.out o u hou hu).2)⟩))
      have q7' : (Value.slice (some ⟨g3, 0, none⟩) 1 cap3).ownBlock ≠ some pb := fun e => q7 (Option.some.inj e)
      have hr2 : w1.ownsRow base 3 1 (.slice (some ⟨g3, 0, none⟩) 1 cap3) 1 [.int .i64 1] := by simpa using hr1
      replace hr2 := Lib.hid hr2
      replace q7' := Lib.hid q7'
      clear hr1 hg1 hg3 k2 k5 wo wp wpf wn wnf woth
      replace q6 := Lib.hid q6
      go_wp2
      go_ret
      refine ⟨0, .slice (some ⟨g3, 0, none⟩) 1 cap3, [1], n + 1, rfl, HS.out, ⟨set_same (is_of q1), keepf_set q2, keep_set (addr_ne hne) q3, keepf_set q4, ownsRow_setCell_other hr2.out q7'.out _, q7'.out, fun e => q8 (Option.some.inj e)⟩,
        q5.out.setCell (p := ⟨pb, po, none⟩) (fun _ => .inl rfl) _, .inr (fun g' hg' => by have := Option.some.inj hg'; have := q6.out; simp only at *; omega), fun o u hou hu => ⟨keep_set (fun e => hou (congrArg Addr.off e).symm) (q9.out o u hou hu).1, (World.frozen?_setCell _ _ _ _).trans (q9.out o u hou hu).2⟩⟩

/-- The two together. -/
theorem put_any (w : World) (base pb po nb : Nat) (v : Value) (L : List Int) (n per : Int) (k : Nat) (hL : L.length ≤ 100000) (hper : 0 ≤ per ∧ per ≤ 100) (hx : ∀ x ∈ L, 0 ≤ x ∧ x ≤ 1000000) (hn : 0 ≤ n ∧ n ≤ 1000000) (hk : k ≤ 1000000) (hne : pb ≠ nb)
    (hb0 : base ≤ w.heap.size) (H : Pages w base pb po nb v L n) :
    Calls Try.prog 21 #[.pointer (some ⟨pb, po, none⟩), .int .i64 per, .int .i64 k, .pointer (some ⟨nb, 0, none⟩)] w (PutPost w base pb po nb v L n per) := by
  rcases H.own.2 with ⟨rfl, h0⟩ | ⟨g, cap, cur, rfl, _⟩
  · obtain rfl : L = [] := List.eq_nil_of_length_eq_zero h0
    exact put_nil w base pb po nb n per k hn hne hb0 H
  · exact put_row w base pb po nb g _ cap L n per k hL hper hx hn hk hne hb0 H

end Go.Proofs.Ytjjdnmlfhankjaa
