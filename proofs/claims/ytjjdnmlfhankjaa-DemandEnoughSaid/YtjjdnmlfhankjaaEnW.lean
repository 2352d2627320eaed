/- DemandEnough: the walk. -/
import Derived.Test.YtjjdnmlfhankjaaEnA
import Derived.Test.YtjjdnmlfhankjaaRef03o
import Derived.Test.YtjjdnmlfhankjaaRef03p
import Derived.Deep.LoopGhost
import Derived.Deep.DeepCutAuto
import Derived.Deep.CutBlock
import Derived.StillTailTactics
import Derived.Deep.AppendLies
namespace Go.Proofs.Ytjjdnmlfhankjaa
open Go.RowKit Flt
set_option linter.unusedVariables false

attribute [local irreducible] smallT unitT kindT perT pagesT alignT chargeT byT demT

theorem live_take {l : List Int} {m : Nat} (h : m < l.length) : live (l.take (m + 1)) = live (l.take m) + (if 0 < l[m] then 1 else 0) := by
  rw [List.take_succ_eq_append_getElem h, live_append]
theorem live_len : ∀ (l : List Int), live l ≤ l.length
  | [] => Int.le_refl _
  | y :: l => by have := live_len l; simp only [live, List.length_cons]; split <;> omega

set_option maxRecDepth 20000 in
set_option maxHeartbeats 2000000 in
theorem demandEnough_walk (q : Int) (A : Option Addr) (na ca : Nat) (xs : List A5) (Ap : Option Addr) (np cp : Nat) (ys : List Int) (w : World) (hn : xs.length = na) (hmax : na ≤ maxLen) (hasks : asksAt w A xs) (hnp : ys.length = np) (hmaxp : np ≤ maxLen) (hpicks : picksAt w Ap ys) :
    Calls Try.prog 4 #[.int .i64 q, .slice A na ca, .slice Ap np cp] w fun e w' => e = .returned (.bool true) ∧ Below w.heap.size w w' := by
  obtain ⟨i0, hi, hz0, hz1, hz2⟩ := info_parts infoBlk
  have aw := Lib.hid (fun w => awake_any w)
  cases h : mayB q with
  | false =>
    have o1 := Lib.hid (fun w => demOf_no q w h)
    go_enter Try.func4, Try.ntmps4
    go_wp2_with fail
    refine (o1.out _).mono ?_; rintro e w' ⟨rfl, hw⟩; obtain rfl := hw.symm; clear hw
    go_wp2_with fail
    refine (aw.out _).mono ?_; rintro e w' ⟨rfl, hw⟩; obtain rfl := hw.symm; clear hw
    go_wp2_with fail
    refine (aw.out _).mono ?_; rintro e w' ⟨rfl, hw⟩; obtain rfl := hw.symm; clear hw
    go_wp2_with fail
    go_ret
    exact ⟨rfl, Below.refl _ _⟩
  | true =>
    have o1 := Lib.hid (fun w => demOf_yes q w h)
    have hq := Lib.hid h
    clear h
    by_cases hl1 : na ≤ 2000
    · by_cases hl2 : np ≤ 1000
      · go_enter Try.func4, Try.ntmps4
        go_wp2_with fail
        refine (o1.out _).mono ?_; rintro e w' ⟨rfl, hw⟩; obtain rfl := hw.symm; clear hw
        go_wp2_with fail
        refine (aw.out _).mono ?_; rintro e w' ⟨rfl, hw⟩; obtain rfl := hw.symm; clear hw
        go_wp2_with fail
        have hM := en_mem_start w 37 3
        unfold nil24 at hM
        have hB : Below w.heap.size w ((w.alloc (.cells nil24 37)).alloc (.cells #[.int .i64 0] 3)) := below_alloc (by simp) (below_alloc (Nat.le_refl _) (Below.refl _ _))
        unfold nil24 at hB
        go_loopg [10, 11, 46] xs.length (fun g vT ch i wx => ∃ (j : Nat) (T : List (Int × Int)) (L : Nat → List Int) (v : Nat → Value) (c n : Int), j ≤ xs.length ∧ g = xs.length - j ∧ i = .int .i64 j ∧ ch = .int .i64 c ∧ En q T L c n ∧ EnMem wx (w.heap.size + 2) w.heap.size (w.heap.size + 1) v L n vT T ∧ T.length ≤ j ∧ (∀ d : Nat, d < 8 → (L d).length ≤ j) ∧ Below w.heap.size w wx)
        case atStart => exact ⟨0, [], fun _ => [], fun _ => .slice none 0 0, 0, 0, Nat.zero_le _, rfl, rfl, rfl, en_start (by have := may_iff.1 hq.out; omega), hM, Nat.le_refl _, fun _ _ => Nat.le_refl _, hB⟩
        case round =>
          clear hM hB
          obtain ⟨j, T, L, v, ch, n, hj, rfl, rfl, rfl, hE, hM, hT, hL, hB⟩ := hrel
          by_cases hlt : j < xs.length
          · obtain ⟨ob, off, rfl, hcs⟩ := hasks (by omega)
            have hcj := hcs j hlt
            clear hcs
            generalize xs[j] = z at hcj
            obtain ⟨N1, K1⟩ := z
            obtain ⟨h0, h1⟩ := hcj
            have x0 := keep_b hB h0
            have x1 := keep_b hB h1
            replace hE := Lib.hid hE
            replace hM := Lib.hid hM
            replace hT := Lib.hid hT
            replace hL := Lib.hid hL
            go_upto_if 53 with fail
            go_cut [10, 11] (fun vT ch wx => ∃ (T : List (Int × Int)) (L : Nat → List Int) (v : Nat → Value) (c n : Int), ch = .int .i64 c ∧ En q T L c n ∧ EnMem wx (w.heap.size + 2) w.heap.size (w.heap.size + 1) v L n vT T ∧ T.length ≤ j + 1 ∧ (∀ d : Nat, d < 8 → (L d).length ≤ j + 1) ∧ Below w.heap.size w wx)
            case first =>
              by_cases hN : 0 < N1
              · go_wp2_with fail
                refine (refKind_any N1 _).mono ?_; rintro e w1 ⟨rfl, hb1⟩
                have hB1 : Below w.heap.size w w1 := below_s (below_alloc hB.size hB) hb1
                have hM1 := Lib.hid (hM.out.below (below_s (below_alloc (Nat.le_refl _) (Below.refl _ _)) hb1))
                have y0 : w1.cell? ⟨wr.heap.size, 0, none⟩ = some (.int .i64 N1) := keep_b hb1 (new_cell rfl)
                by_cases hc : kindT N1 < 0
                · go_wp2_with fail
                  go_roundg (xs.length - (j + 1))
                  case measure => omega
                  case rel => exact ⟨j + 1, T, L, v, ch, n, by omega, rfl, by go_num, rfl, hE.out, hM1.out, by have := hT.out; omega, fun d hd => by have := hL.out d hd; omega, hB1⟩
                · have hcq := hE.out.cq
                  have hcn := hE.out.ch_nn
                  have hqq := may_iff.1 hq.out
                  go_wp2_with fail
                  refine (refCharge_any N1 _).mono ?_; rintro e w2 ⟨rfl, hb2⟩
                  have hB2 := below_s hB1 hb2
                  have hM2 := Lib.hid (hM1.out.below hb2)
                  have y0 := keep_b hb2 y0
                  have hN2 : N1 ≤ 8192 := by
                    by_cases e : N1 ≤ 8192
                    · exact e
                    · exfalso; have := kind_out (Or.inr (Int.not_le.1 e)); omega
                  obtain ⟨c0, c23, cu, _⟩ := unit_kind (by omega) hN2
                  have hcu : unitT (kindT N1) ≤ 8192 := (unit_bound _).2
                  have hch : chargeT N1 = unitT (kindT N1) := by unfold chargeT; rfl
                  rw [hch]
                  generalize kindT N1 = cc at *
                  by_cases hov : q < ch + unitT cc
                  · go_wp2_with fail
                    go_roundg (xs.length - (j + 1))
                    case measure => omega
                    case rel => exact ⟨j + 1, T, L, v, ch, n, by omega, rfl, by go_num, rfl, hE.out, hM2.out, by have := hT.out; omega, fun d hd => by have := hL.out d hd; omega, hB2⟩
                  · go_wp2_with fail
                    refine (refCharge_any N1 _).mono ?_; rintro e w3 ⟨rfl, hb3⟩
                    rw [hch]
                    have hB3 := below_s hB2 hb3
                    have hM3 := Lib.hid (hM2.out.below hb3)
                    have y0 := keep_b hb3 y0
                    clear hM2 hM1 hB1 hB2
                    by_cases h8 : 8 ≤ cc
                    · have hn4 := (hM3.out.pg 0 (by omega))
                      have n0 := hn4.n
                      have nf0 := hn4.nf
                      clear hn4
                      have hnn := hE.out.most hq.out
                      have hdm := dem_bound q
                      have hpb : 0 ≤ pagesT cc ∧ pagesT cc ≤ 16 := by have := en_run h8 c23; omega
                      go_wp2_with fail
                      go_still_tail 4, (by kernel_rfl)
                      still_call (refPages_any cc _)
                      repeat still_step
                      refine wpStill_nil ?_
                      change wpList _ _ _ _ _ w3.drew
                      have hm := hE.out.addRun h8 c23 hov
                      have hM4 := Lib.hid ((hM3.out.setN (by omega) (n + pagesT cc)))
                      replace hm := Lib.hid hm
                      clear hM3
                      go_wp2_with (at_builtin; (refine wpList_append_own_at _ rfl _ _ 38 rfl (w.heap.size + 2) 42 i0 (.agg #[.int .i64 0, .int .i64 0]) 2 16 Try.underlying38 hi hz0 hz1 hz2 rfl (by decide) _ _ _ rfl (own_dr (hM4.out.th.alloc _)) _ 1 1 [.int .i64 cc, .int .i64 (-1)] rfl rfl ?c1 ?c2 ?c3 ?c4 ?c5 ?_))
                      case c1 =>
                        intro q u hq
                        match q, hq with
                        | 0, hq => simp at hq; subst hq; have e := new_cell (W := w3.setCell ⟨w.heap.size + 1, 0, none⟩ (.int .i64 (n + pagesT cc))) (t := 42) (c := #[.int .i64 cc, .int .i64 (-1)]) (i := 0) rfl; simpa [Addr.add] using e
                        | 1, hq => simp at hq; subst hq; have e := new_cell (W := w3.setCell ⟨w.heap.size + 1, 0, none⟩ (.int .i64 (n + pagesT cc))) (t := 42) (c := #[.int .i64 cc, .int .i64 (-1)]) (i := 1) rfl; simpa [Addr.add] using e
                      case c2 => intro u hu; simp at hu; rcases hu with rfl | rfl <;> rfl
                      case c3 => have := hT.out; unfold maxLen; omega
                      case c4 => have := hT.out; omega
                      case c5 => have : w.heap.size + 1 < w3.heap.size := block_lt n0; simp; omega
                      intro v5 w5 hr1 hg1 _ hv1
                      have hO : Only (fun _ => False) (w3.setCell ⟨w.heap.size + 1, 0, none⟩ (.int .i64 (n + pagesT cc))) (((w3.setCell ⟨w.heap.size + 1, 0, none⟩ (.int .i64 (n + pagesT cc))).alloc (.cells #[.int .i64 cc, .int .i64 (-1)] 42)).drew) := ((Only.refl _ _).alloc _).drew
                      have hM5 := Lib.hid (hM4.out.append hO hr1 hg1 (by simpa using hv1))
                      have hB5 := hM4.out.append_b (hB3.setCell (p := ⟨w.heap.size + 1, 0, none⟩) (by simp) _) hO hg1 (by omega)
                      clear hr1 hg1 hv1 hO
                      go_wp2_with fail
                      go_meet
                      case rel => exact ⟨T ++ [(cc, -1)], L, v, _, _, rfl, hm.out, hM5.out, by have := hT.out; simp; omega, fun d hd => by have := hL.out d hd; omega, hB5⟩
                    · have hc8 : cc < 8 := by omega
                      clear h8
                      obtain ⟨c, rfl⟩ : ∃ c : Nat, cc = c := ⟨cc.toNat, by omega⟩
                      have hc8 : c < 8 := by omega
                      have hc24 : (c : Int) < 24 := by omega
                      have hsm := Lib.hid (hE.out.small hq.out hc8)
                      have hper := Lib.hid (per_pos (c := (c : Int)) (by omega) (by omega))
                      have hLc := Lib.hid (hL.out c hc8)
                      have hnn := Lib.hid (hE.out.most hq.out)
                      have hdm := Lib.hid (dem_bound q)
                      go_wp2_with fail
                      refine wp_region_noPanic ?_
                      refine wp_region_held_drew (S := (fun _ => True)) (by kernel_rfl) ?_ (fun hHeld => ?_)
                      · (try dsimp only)
                        first | done | trivial
                      refine wpAnyH_take (i := 0) (oi := { dst := some 84, op := Op.move (Operand.tmp 10), type := 38, pos := "law.go:65", after := #[], guard := none }) (v := ?_) rfl (by kernel_rfl) (by kernel_rfl) (by kernel_rfl) (fun _ _ _ h => h) (Or.inl ⟨rfl, ?_⟩) (by assumption) ?_
                      rotate_left
                      · (intro w hSw; (try dsimp only at hSw); first | (go_simp; done) | (go_simp; with_reducible rfl))
                      try simp only [Act.put, List.setIfInBounds_toArray, List.set_cons_zero, List.set_cons_succ]
                      refine wpAnyH_take (i := 1) (oi := { dst := some 85, op := Op.move (Operand.tmp 15), type := 3, pos := "law.go:65", after := #[], guard := none }) (v := ?_) rfl (by kernel_rfl) (by kernel_rfl) (by kernel_rfl) (fun _ _ _ h => h) (Or.inl ⟨rfl, ?_⟩) (by assumption) ?_
                      rotate_left
                      · (intro w hSw; (try dsimp only at hSw); first | (go_simp; done) | (go_simp; with_reducible rfl))
                      try simp only [Act.put, List.setIfInBounds_toArray, List.set_cons_zero, List.set_cons_succ]
                      refine wpAnyH_take (i := 2) (oi := { dst := some 86, op := Op.move (Operand.tmp 15), type := 3, pos := "law.go:65", after := #[], guard := none }) (v := ?_) rfl (by kernel_rfl) (by kernel_rfl) (by kernel_rfl) (fun _ _ _ h => h) (Or.inl ⟨rfl, ?_⟩) (by assumption) ?_
                      rotate_left
                      · (intro w hSw; (try dsimp only at hSw); first | (go_simp; done) | (go_simp; with_reducible rfl))
                      try simp only [Act.put, List.setIfInBounds_toArray, List.set_cons_zero, List.set_cons_succ]
                      refine wpAnyH_take (i := 3) (oi := { dst := some 87, op := Op.indexAddr 37 (Operand.tmp 9) (Operand.tmp 86), type := 0, pos := "law.go:65", after := #[{ on := 2, ground := Ground.data }], guard := none }) (v := ?_) rfl (by kernel_rfl) (by kernel_rfl) (by kernel_rfl) (fun _ _ _ h => h) (Or.inl ⟨rfl, ?_⟩) (by assumption) ?_
                      rotate_left
                      · (intro w hSw; (try dsimp only at hSw); first | (go_simp; done) | (go_simp; with_reducible rfl))
                      try simp only [Act.put, List.setIfInBounds_toArray, List.set_cons_zero, List.set_cons_succ]
                      refine wpAnyH_take (i := 4) (oi := { dst := some 88, op := Op.move (Operand.tmp 15), type := 3, pos := "law.go:65", after := #[], guard := none }) (v := ?_) rfl (by kernel_rfl) (by kernel_rfl) (by kernel_rfl) (fun _ _ _ h => h) (Or.inl ⟨rfl, ?_⟩) (by assumption) ?_
                      rotate_left
                      · (intro w hSw; (try dsimp only at hSw); first | (go_simp; done) | (go_simp; with_reducible rfl))
                      try simp only [Act.put, List.setIfInBounds_toArray, List.set_cons_zero, List.set_cons_succ]
                      refine wpAnyH_take (i := 6) (oi := { dst := some 90, op := Op.move (Operand.tmp 2), type := 35, pos := "law.go:65", after := #[], guard := none }) (v := ?_) rfl (by kernel_rfl) (by kernel_rfl) (by kernel_rfl) (fun _ _ _ h => h) (Or.inl ⟨rfl, ?_⟩) (by assumption) ?_
                      rotate_left
                      · (intro w hSw; (try dsimp only at hSw); first | (go_simp; done) | (go_simp; with_reducible rfl))
                      try simp only [Act.put, List.setIfInBounds_toArray, List.set_cons_zero, List.set_cons_succ]
                      refine wpAnyH_take (i := 7) (oi := { dst := some 91, op := Op.move (Operand.tmp 13), type := 3, pos := "law.go:65", after := #[], guard := none }) (v := ?_) rfl (by kernel_rfl) (by kernel_rfl) (by kernel_rfl) (fun _ _ _ h => h) (Or.inl ⟨rfl, ?_⟩) (by assumption) ?_
                      rotate_left
                      · (intro w hSw; (try dsimp only at hSw); first | (go_simp; done) | (go_simp; with_reducible rfl))
                      try simp only [Act.put, List.setIfInBounds_toArray, List.set_cons_zero, List.set_cons_succ]
                      refine wpAnyH_ready (rs := [5]) (by kernel_rfl) (by simp) ?_
                      refine AllReadyH.cons (o := { dst := some 89, op := Op.call { callee := Callee.value (Operand.func 22), args := #[Operand.tmp 88], argTypes := #[3] }, type := 3, pos := "law.go:65", after := #[{ on := 4, ground := Ground.data }], guard := none }) rfl (fun K hK => ?_) AllReadyH.nil
                      go_simp
                      refine (refPer_any c _).mono ?_; rintro e w4 ⟨rfl, hb4⟩
                      go_wp2_with fail
                      refine hK.out _ _ ?_ (fun hHeld => ?_)
                      · (try dsimp only)
                        first | done | trivial
                      clear hK
                      try simp only [Act.put, List.setIfInBounds_toArray, List.set_cons_zero, List.set_cons_succ]
                      refine wpAnyH_ready (rs := [8]) (by kernel_rfl) (by simp) ?_
                      refine AllReadyH.cons (o := { dst := some 92, op := Op.call { callee := Callee.value (Operand.func 23), args := #[Operand.tmp 90, Operand.tmp 91], argTypes := #[35, 3] }, type := 3, pos := "law.go:65", after := #[{ on := 6, ground := Ground.data }, { on := 7, ground := Ground.data }, { on := 5, ground := Ground.chain }], guard := none }) rfl (fun K hK => ?_) AllReadyH.nil
                      go_simp
                      refine (pick_any Ap np cp ys j _ hnp (picks_b hpicks (below_s hB3.drew hb4))).mono ?_; rintro e w' ⟨⟨kk, hkk, rfl⟩, hw⟩; obtain rfl := hw.symm; clear hw
                      have hB4 : Below w.heap.size w w4 := below_s hB3.drew hb4
                      have hM4 := Lib.hid ((hM3.out.below (Below.drew (Below.refl _ _))).below hb4)
                      go_wp2_with fail
                      refine hK.out _ _ ?_ (fun hHeld => ?_)
                      · (try dsimp only)
                        first | done | trivial
                      clear hK
                      try simp only [Act.put, List.setIfInBounds_toArray, List.set_cons_zero, List.set_cons_succ]
                      refine wpAnyH_ready (rs := [9]) (by kernel_rfl) (by simp) ?_
                      refine AllReadyH.cons (o := { dst := some 93, op := Op.call { callee := Callee.value (Operand.func 21), args := #[Operand.tmp 87, Operand.tmp 89, Operand.tmp 92, Operand.tmp 12], argTypes := #[44, 3, 3, 46] }, type := 3, pos := "law.go:65", after := #[{ on := 3, ground := Ground.data }, { on := 5, ground := Ground.data }, { on := 8, ground := Ground.data }, { on := 8, ground := Ground.chain }], guard := none }) rfl (fun K hK => ?_) AllReadyH.nil
                      go_simp
                      refine (put_any w4 (w.heap.size + 2) w.heap.size c (w.heap.size + 1) (v c) (L c) n (perT c) kk (by have := hLc.out; omega) (by have := hper.out; omega) hsm.out (by have := hnn.out; have := hdm.out; omega) (by omega) (by omega) (by have : w.heap.size + 1 < w4.heap.size := block_lt (hM4.out.pg 0 (by omega)).n; omega) (hM4.out.pg c hc8)).mono ?_; rintro e w5 ⟨i, v', L', n', rfl, hspec, hP5, hO5, hv5, hK5⟩
                      go_wp2_with fail
                      refine hK.out _ _ ?_ (fun hHeld => ?_)
                      · (try dsimp only)
                        first | done | trivial
                      clear hK
                      try simp only [Act.put, List.setIfInBounds_toArray, List.set_cons_zero, List.set_cons_succ]
                      refine wpAnyH_take (i := 10) (oi := { dst := some 94, op := Op.build 42 #[(0, Operand.tmp 85), (1, Operand.tmp 93)], type := 42, pos := "law.go:65", after := #[{ on := 1, ground := Ground.data }, { on := 9, ground := Ground.data }], guard := none }) (v := ?_) rfl (by kernel_rfl) (by kernel_rfl) (by kernel_rfl) (fun _ _ _ h => h) (Or.inl ⟨rfl, ?_⟩) (by assumption) ?_
                      rotate_left
                      · (intro w hSw; (try dsimp only at hSw); first | (go_simp; done) | (go_simp; with_reducible rfl))
                      try simp only [Act.put, List.setIfInBounds_toArray, List.set_cons_zero, List.set_cons_succ]
                      refine wpAnyH_ready (rs := [11]) (by kernel_rfl) (by simp) ?_
                      refine AllReadyH.cons (o := { dst := some 95, op := Op.buildSlice 38 1 #[(0, Operand.tmp 94)], type := 38, pos := "law.go:65", after := #[{ on := 10, ground := Ground.data }], guard := none }) rfl (fun K hK => ?_) AllReadyH.nil
                      go_simp
                      refine hK.out _ _ ?_ (fun hHeld => ?_)
                      · (try dsimp only)
                        first | done | trivial
                      clear hK
                      try simp only [Act.put, List.setIfInBounds_toArray, List.set_cons_zero, List.set_cons_succ]
                      refine wpAnyH_ready (rs := [12]) (by kernel_rfl) (by simp) ?_
                      refine AllReadyH.cons (o := { dst := some 96, op := Op.call { callee := Callee.builtin Builtin.append, args := #[Operand.tmp 84, Operand.tmp 95], argTypes := #[38, 38] }, type := 38, pos := "law.go:65", after := #[{ on := 0, ground := Ground.data }, { on := 11, ground := Ground.data }, { on := 9, ground := Ground.chain }], guard := none }) rfl (fun K hK => ?_) AllReadyH.nil
                      have hM5 := Lib.hid (hM4.out.put hc8 hP5 hO5 hv5 hK5)
                      refine step_append_at _ rfl _ _ 38 rfl (w.heap.size + 2) 42 i0 (.agg #[.int .i64 0, .int .i64 0]) 2 16 Try.underlying38 hi hz0 hz1 hz2 rfl (by decide) _ _ _ rfl (hM5.out.th.alloc _) _ 1 _ [.int .i64 c, .int .i64 i] rfl ?c0 ?c1 ?c2 ?c3 ?c4 ?c5 ?_
                      case c0 => rfl
                      case c1 =>
                        intro q u hq
                        match q, hq with
                        | 0, hq => simp at hq; subst hq; simp [Addr.add]
                        | 1, hq => simp at hq; subst hq; simp [Addr.add]
                      case c2 => intro u hu; simp at hu; rcases hu with rfl | rfl <;> rfl
                      case c3 => have := hT.out; unfold maxLen; omega
                      case c4 => have := hT.out; omega
                      case c5 => have := hB4.size; have := hO5.size; have : w.heap.size + 1 < w4.heap.size := block_lt (hM4.out.pg 0 (by omega)).n; simp; omega
                      intro v6 w6 hr6 hg6 hv6
                      refine hK.out _ _ ?_ (fun hHeld => ?_)
                      · (try dsimp only)
                        first | done | trivial
                      clear hK
                      try simp only [Act.put, List.setIfInBounds_toArray, List.set_cons_zero, List.set_cons_succ]
                      refine wpAnyH_take (i := 13) (oi := { dst := some 10, op := Op.assign (Operand.tmp 96), type := 38, pos := "law.go:65", after := #[{ on := 12, ground := Ground.data }, { on := 12, ground := Ground.chain }, { on := 0, ground := Ground.phase }, { on := 1, ground := Ground.phase }, { on := 2, ground := Ground.phase }, { on := 3, ground := Ground.phase }, { on := 4, ground := Ground.phase }, { on := 5, ground := Ground.phase }, { on := 6, ground := Ground.phase }, { on := 7, ground := Ground.phase }, { on := 8, ground := Ground.phase }, { on := 9, ground := Ground.phase }, { on := 10, ground := Ground.phase }, { on := 11, ground := Ground.phase }, { on := 12, ground := Ground.phase }], guard := none }) (v := ?_) rfl (by kernel_rfl) (by kernel_rfl) (by kernel_rfl) (fun _ _ _ h => h) (Or.inl ⟨rfl, ?_⟩) (by assumption) ?_
                      rotate_left
                      · (intro w hSw; (try dsimp only at hSw); first | (go_simp; done) | (go_simp; with_reducible rfl))
                      try simp only [Act.put, List.setIfInBounds_toArray, List.set_cons_zero, List.set_cons_succ]
                      refine wpAnyH_done (by kernel_rfl) ?_ _
                      refine NoPanic.normal ?_
                      have hO : Only (fun _ => False) w5 (w5.alloc (.cells #[.int .i64 c, .int .i64 i] 42)) := (Only.refl _ _).alloc _
                      have hM6 := Lib.hid (hM5.out.append hO hr6 hg6 hv6)
                      have hB5 : Below w.heap.size w w5 := Only.at_b hB4 hO5 (fun k hk hq => by
                        rcases hq with rfl | rfl | hq
                        · omega
                        · omega
                        · have := (hM4.out.pg c hc8).own.lt k hq; omega)
                      have hB6 := hM5.out.append_b hB5 hO hg6 (by omega)
                      have hE6 := hE.out.add hq.out hc8 hov hspec
                      have hl6 := put_len hspec
                      clear hr6 hg6 hv6 hO hM5 hspec hM4 hM3 hP5 hO5 hv5 hK5
                      replace hE6 := Lib.hid hE6
                      go_wp2_with fail
                      go_meet
                      case rel => exact ⟨T ++ [((c : Int), (i : Int))], upd L c L', updV v c v', _, _, rfl, hE6.out, hM6.out, by have := hT.out; simp; omega, upd_len hL.out (by have := hLc.out; omega), hB6⟩
              · have hM1 := Lib.hid (hM.out.below (w1 := wr.alloc (.cells #[.int .i64 N1, .int .i64 K1] 40)) (below_alloc (Nat.le_refl _) (Below.refl _ _)))
                have hB1 : Below w.heap.size w (wr.alloc (.cells #[.int .i64 N1, .int .i64 K1] 40)) := below_alloc hB.size hB
                have hTl := hT.out
                rcases hM.out.th.2 with ⟨hv0, h0⟩ | ⟨gT, cap, cur, hv0, hg0, hc0, hle, hmx, hsz, htk⟩
                · subst hv0
                  go_wp2_with fail
                  go_meet
                  case rel => exact ⟨T, L, v, _, _, rfl, hE.out, hM1.out, by omega, fun d hd => by have := hL.out d hd; omega, hB1⟩
                · subst hv0
                  by_cases hT0 : T.length = 0
                  · have hT0' : ¬ (0 < T.length) := by omega
                    go_wp2_with fail
                    go_meet
                    case rel => exact ⟨T, L, v, _, _, rfl, hE.out, by have := hM1.out; rwa [hT0] at this, by omega, fun d hd => by have := hL.out d hd; omega, hB1⟩
                  · obtain ⟨k, hkl, hkw⟩ := wrapk K1 (m := T.length) (by omega) (by omega)
                    go_upto_region 20 with fail
                    rw [hkw]
                    clear hkw
                    obtain ⟨A0, ⟨xc, xp⟩, B0, hTe, hAl⟩ := split_at' hkl
                    have hfl := flat_at (A := A0) (B := B0) (x := (xc, xp))
                    rw [← hTe, hAl] at hfl
                    have hx0 := (hM1.out.th.cellAt (k * 2) (by omega)).trans hfl.1
                    have hx1 := (hM1.out.th.cellAt (k * 2 + 1) (by omega)).trans hfl.2
                    clear hfl
                    replace hTe := Lib.hid hTe
                    go_upto_region 21 with fail
                    refine wp_name (fun W => EnMem W (w.heap.size + 2) w.heap.size (w.heap.size + 1) v L n (.slice (some ⟨gT, 0, none⟩) T.length cap) T ∧ Below w.heap.size w W ∧ W.cell? ⟨wr.heap.size + 1, 0, none⟩ = some (.int .i64 xc) ∧ W.cell? ⟨wr.heap.size + 1, 1, none⟩ = some (.int .i64 xp)) ⟨?_, ?_, ?_, ?_⟩ ?_
                    · exact hM1.out.below (below_alloc (by simp) (Below.refl _ _))
                    · exact below_alloc (by have := hB1.size; exact this) hB1
                    · simp
                    · simp
                    rintro W2 ⟨hM2, hB2, z0, z1⟩
                    replace hM2 := Lib.hid hM2
                    clear hM1 hB1 hx0 hx1 hc0 htk hsz
                    have hkc : k ≤ cap := by omega
                    have hkw1 := IntWalk.i64_in ((k : Int) + 1) (by omega)
                    have hkt : ((k : Int) + 1).toNat = k + 1 := by omega
                    have hkd : 0 ≤ (k : Int) + 1 ∧ (k : Int) + 1 ≤ (T.length : Int) := by omega
                    have hB0 : T.length = k + 1 + B0.length := by rw [hTe.out, ← hAl]; simp; omega
                    obtain ⟨adB, hadB, hadC⟩ : ∃ ad : Addr, (if cap = k + 1 then some (⟨gT, 0, none⟩ : Addr) else some ⟨gT, (k + 1) * 2, none⟩) = some ad ∧ (∀ i u, (flat B0)[i]? = some u → ad.add i = ⟨gT, (k + 1) * 2 + i, none⟩) := by
                      by_cases e : cap = k + 1
                      · refine ⟨_, if_pos e, fun i u hu => ?_⟩
                        have : B0 = [] := List.eq_nil_of_length_eq_zero (by omega)
                        subst this
                        simp [flat] at hu
                      · exact ⟨_, if_neg e, fun i u _ => by simp [Addr.add]⟩
                    replace hadC := Lib.hid hadC
                    replace hB0 := Lib.hid hB0
                    refine wp_region_noPanic ?_
                    refine wp_region_held_drew (S := (fun _ => True)) (by kernel_rfl) ?_ (fun hHeld => ?_)
                    · (try dsimp only)
                      first | done | trivial
                    refine wpAnyH_take (i := 1) (oi := { dst := some 113, op := Op.move (Operand.tmp 10), type := 38, pos := "law.go:70", after := #[], guard := none }) (v := ?_) rfl (by kernel_rfl) (by kernel_rfl) (by kernel_rfl) (fun _ _ _ h => h) (Or.inl ⟨rfl, ?_⟩) (by assumption) ?_
                    rotate_left
                    · (intro w hSw; (try dsimp only at hSw); first | (go_simp; done) | (go_simp; with_reducible rfl))
                    try simp only [Act.put, List.setIfInBounds_toArray, List.set_cons_zero, List.set_cons_succ]
                    refine wpAnyH_take (i := 2) (oi := { dst := some 114, op := Op.move (Operand.tmp 16), type := 3, pos := "law.go:70", after := #[], guard := none }) (v := ?_) rfl (by kernel_rfl) (by kernel_rfl) (by kernel_rfl) (fun _ _ _ h => h) (Or.inl ⟨rfl, ?_⟩) (by assumption) ?_
                    rotate_left
                    · (intro w hSw; (try dsimp only at hSw); first | (go_simp; done) | (go_simp; with_reducible rfl))
                    try simp only [Act.put, List.setIfInBounds_toArray, List.set_cons_zero, List.set_cons_succ]
                    refine wpAnyH_take (i := 3) (oi := { dst := some 115, op := Op.slice 38 (Operand.tmp 113) none (some (Operand.tmp 114)) none, type := 38, pos := "law.go:70", after := #[{ on := 1, ground := Ground.data }, { on := 2, ground := Ground.data }], guard := none }) (v := ?_) rfl (by kernel_rfl) (by kernel_rfl) (by kernel_rfl) (fun _ _ _ h => h) (Or.inl ⟨rfl, ?_⟩) (by assumption) ?_
                    rotate_left
                    · (intro w hSw; (try dsimp only at hSw); first | (go_simp; done) | (go_simp; with_reducible rfl))
                    try simp only [Act.put, List.setIfInBounds_toArray, List.set_cons_zero, List.set_cons_succ]
                    refine wpAnyH_take (i := 5) (oi := { dst := some 117, op := Op.move (Operand.tmp 10), type := 38, pos := "law.go:70", after := #[], guard := none }) (v := ?_) rfl (by kernel_rfl) (by kernel_rfl) (by kernel_rfl) (fun _ _ _ h => h) (Or.inl ⟨rfl, ?_⟩) (by assumption) ?_
                    rotate_left
                    · (intro w hSw; (try dsimp only at hSw); first | (go_simp; done) | (go_simp; with_reducible rfl))
                    try simp only [Act.put, List.setIfInBounds_toArray, List.set_cons_zero, List.set_cons_succ]
                    refine wpAnyH_take (i := 6) (oi := { dst := some 118, op := Op.move (Operand.tmp 16), type := 3, pos := "law.go:70", after := #[], guard := none }) (v := ?_) rfl (by kernel_rfl) (by kernel_rfl) (by kernel_rfl) (fun _ _ _ h => h) (Or.inl ⟨rfl, ?_⟩) (by assumption) ?_
                    rotate_left
                    · (intro w hSw; (try dsimp only at hSw); first | (go_simp; done) | (go_simp; with_reducible rfl))
                    try simp only [Act.put, List.setIfInBounds_toArray, List.set_cons_zero, List.set_cons_succ]
                    refine wpAnyH_take (i := 7) (oi := { dst := some 119, op := Op.binOp BinOp.add 3 (Operand.tmp 118) (Operand.const (Value.int IntKind.i64 1)) 3, type := 3, pos := "law.go:70", after := #[{ on := 6, ground := Ground.data }], guard := none }) (v := ?_) rfl (by kernel_rfl) (by kernel_rfl) (by kernel_rfl) (fun _ _ _ h => h) (Or.inl ⟨rfl, ?_⟩) (by assumption) ?_
                    rotate_left
                    · (intro w hSw; (try dsimp only at hSw); first | (go_simp; done) | (go_simp; with_reducible rfl))
                    try simp only [Act.put, List.setIfInBounds_toArray, List.set_cons_zero, List.set_cons_succ]
                    refine wpAnyH_take (i := 8) (oi := { dst := some 120, op := Op.slice 38 (Operand.tmp 117) (some (Operand.tmp 119)) none none, type := 38, pos := "law.go:70", after := #[{ on := 5, ground := Ground.data }, { on := 7, ground := Ground.data }], guard := none }) (v := ?_) rfl (by kernel_rfl) (by kernel_rfl) (by kernel_rfl) (fun _ _ _ h => h) (Or.inl ⟨rfl, ?_⟩) (by assumption) ?_
                    rotate_left
                    · (intro w hSw; (try dsimp only at hSw); first | (go_simp; done) | (go_simp; with_reducible rfl))
                    try simp only [Act.put, List.setIfInBounds_toArray, List.set_cons_zero, List.set_cons_succ]
                    refine wpAnyH_ready (rs := [0]) (by kernel_rfl) (by simp) ?_
                    refine AllReadyH.cons (o := { dst := some 112, op := Op.buildSlice 38 0 #[], type := 38, pos := "law.go:70", after := #[], guard := none }) rfl (fun K hK => ?_) AllReadyH.nil
                    go_simp
                    refine hK.out _ _ ?_ (fun hHeld => ?_)
                    · (try dsimp only)
                      first | done | trivial
                    clear hK
                    try simp only [Act.put, List.setIfInBounds_toArray, List.set_cons_zero, List.set_cons_succ]
                    refine wpAnyH_ready (rs := [4]) (by kernel_rfl) (by simp) ?_
                    refine AllReadyH.cons (o := { dst := some 116, op := Op.call { callee := Callee.builtin Builtin.append, args := #[Operand.tmp 112, Operand.tmp 115], argTypes := #[38, 38] }, type := 38, pos := "law.go:70", after := #[{ on := 0, ground := Ground.data }, { on := 3, ground := Ground.data }], guard := none }) rfl (fun K hK => ?_) AllReadyH.nil
                    refine step_append_at _ rfl _ _ 38 rfl (w.heap.size + 2) 42 i0 (.agg #[.int .i64 0, .int .i64 0]) 2 16 Try.underlying38 hi hz0 hz1 hz2 rfl (by decide) _ 0 [] rfl (by refine ⟨rfl, .inr ⟨W2.heap.size, 0, #[], rfl, by have : w.heap.size + 1 < W2.heap.size := block_lt (hM2.out.pg 0 (by omega)).n; omega, heap_alloc_new _ _, Nat.le_refl _, by unfold maxLen; omega, rfl, rfl⟩⟩) _ k _ (flat A0) rfl ?c0 ?c1 ?c2 ?c3 ?c4 ?c5 ?_
                    case c0 => rw [flat_length, hAl]
                    case c1 =>
                      intro i u hu
                      have hu2 := flat_left (B := (xc, xp) :: B0) hu
                      rw [← hTe.out] at hu2
                      exact keep_alloc (hM2.out.th.cells rfl i u hu2)
                    case c2 => exact flat_one
                    case c3 => have := hT.out; unfold maxLen; omega
                    case c4 => have := hT.out; omega
                    case c5 => have : w.heap.size + 1 < W2.heap.size := block_lt (hM2.out.pg 0 (by omega)).n; simp; omega
                    intro v6 w6 hr6 hg6 hv6
                    rw [Nat.zero_add, List.nil_append] at hr6
                    replace hg6 : (W2.alloc (.cells #[] 42)).drew.grownBy w6 (some W2.heap.size) := hg6
                    replace hv6 : v6.ownBlock = some W2.heap.size ∨ v6.ownBlock = some (W2.alloc (.cells #[] 42)).heap.size := hv6
                    refine hK.out _ _ ?_ (fun hHeld => ?_)
                    · (try dsimp only)
                      first | done | trivial
                    clear hK
                    try simp only [Act.put, List.setIfInBounds_toArray, List.set_cons_zero, List.set_cons_succ]
                    refine wpAnyH_ready (rs := [9]) (by kernel_rfl) (by simp) ?_
                    refine AllReadyH.cons (o := { dst := some 121, op := Op.call { callee := Callee.builtin Builtin.append, args := #[Operand.tmp 116, Operand.tmp 120], argTypes := #[38, 38] }, type := 38, pos := "law.go:70", after := #[{ on := 4, ground := Ground.data }, { on := 8, ground := Ground.data }, { on := 4, ground := Ground.chain }], guard := none }) rfl (fun K hK => ?_) AllReadyH.nil
                    have hO6 : Only (fun _ => False) W2 w6 := ((Only.refl (fun _ => False) W2).alloc (.cells #[] 42)).drew.grown hg6 (fun b hb hlt => by simp at hb; omega)
                    have hM6 := Lib.hid (hM2.out.there (hO6.mono (fun _ _ q => q.elim)) (hO6.owns hM2.out.th (fun _ _ q => q)) (.inl rfl))
                    have hb6 : ∀ g, v6.ownBlock = some g → W2.heap.size ≤ g := by
                      intro g hg
                      rcases hv6 with e | e
                      · rw [e] at hg; simp at hg; omega
                      · rw [e] at hg; simp at hg; omega
                    refine step_append_at _ rfl _ _ 38 rfl (w.heap.size + 2) 42 i0 (.agg #[.int .i64 0, .int .i64 0]) 2 16 Try.underlying38 hi hz0 hz1 hz2 rfl (by decide) _ _ _ rfl (hr6) _ (T.length - (k + 1)) _ (flat B0) rfl ?c0 ?c1 ?c2 ?c3 ?c4 ?c5 ?_
                    case c0 => rw [flat_length]; have := hB0.out; omega
                    case c1 =>
                      intro i u hu
                      have hu2 := flat_right (A := A0) (x := (xc, xp)) hu
                      rw [← hTe.out, hAl] at hu2
                      rw [hadC.out i u hu]
                      exact (hM6.out.th.cellAt _ (by have := (List.getElem?_eq_some_iff.1 hu).1; rw [flat_length] at this; have := hB0.out; omega)).trans hu2
                    case c2 => exact flat_one
                    case c3 => have := hT.out; unfold maxLen; omega
                    case c4 => have := hT.out; omega
                    case c5 => have : w.heap.size + 1 < W2.heap.size := block_lt (hM2.out.pg 0 (by omega)).n; have := hO6.size; omega
                    intro v7 w7 hr7 hg7 hv7
                    refine hK.out _ _ ?_ (fun hHeld => ?_)
                    · (try dsimp only)
                      first | done | trivial
                    clear hK
                    try simp only [Act.put, List.setIfInBounds_toArray, List.set_cons_zero, List.set_cons_succ]
                    refine wpAnyH_take (i := 10) (oi := { dst := some 10, op := Op.assign (Operand.tmp 121), type := 38, pos := "law.go:70", after := #[{ on := 9, ground := Ground.data }, { on := 9, ground := Ground.chain }, { on := 0, ground := Ground.phase }, { on := 1, ground := Ground.phase }, { on := 2, ground := Ground.phase }, { on := 3, ground := Ground.phase }, { on := 4, ground := Ground.phase }, { on := 5, ground := Ground.phase }, { on := 6, ground := Ground.phase }, { on := 7, ground := Ground.phase }, { on := 8, ground := Ground.phase }, { on := 9, ground := Ground.phase }], guard := none }) (v := ?_) rfl (by kernel_rfl) (by kernel_rfl) (by kernel_rfl) (fun _ _ _ h => h) (Or.inl ⟨rfl, ?_⟩) (by assumption) ?_
                    rotate_left
                    · (intro w hSw; (try dsimp only at hSw); first | (go_simp; done) | (go_simp; with_reducible rfl))
                    try simp only [Act.put, List.setIfInBounds_toArray, List.set_cons_zero, List.set_cons_succ]
                    refine wpAnyH_done (by kernel_rfl) ?_ _
                    refine NoPanic.normal ?_
                    have hO7 : Only (fun _ => False) W2 w7 := hO6.grown hg7 (fun b hb hlt => by have := hb6 b hb; omega)
                    have hA : flat A0 ++ flat B0 = flat (A0 ++ B0) := (flat_append _ _).symm
                    rw [hA, show k + (T.length - (k + 1)) = (A0 ++ B0).length by rw [List.length_append, hAl]; have := hB0.out; omega] at hr7
                    have hM7 := Lib.hid (hM2.out.there (hO7.mono (fun _ _ q => q.elim)) hr7 (.inr (fun g hg => by
                      rcases hv7 with e | e
                      · exact hb6 g (e.symm.trans hg)
                      · have := e.symm.trans hg; injection this; have := hO6.size; omega)))
                    have hB7 : Below w.heap.size w w7 := Only.at_b hB2 hO7 (fun _ _ q => q)
                    have z0 := hO7.cell z0 (fun q => q)
                    have z1 := hO7.cell z1 (fun q => q)
                    have hEn := hE.out
                    rw [hTe.out] at hEn
                    have hTl' : (A0 ++ B0).length ≤ j + 1 := by rw [List.length_append, hAl]; have := hB0.out; omega
                    clear hr7 hg7 hv7 hr6 hg6 hv6 hb6 hO6 hM6 hO7 hA hM2 hB2 hadC hadB hTe hkd hkt hkw1 hB0
                    have hch0 := hE.out.ch_nn
                    have hcq := hE.out.cq
                    have hqq := may_iff.1 hq.out
                    have hub := unit_bound xc
                    have hEe := hEn.ent (xc, xp) (by simp)
                    replace hTl' := Lib.hid hTl'
                    replace hEn := Lib.hid hEn
                    replace hEe := Lib.hid hEe
                    go_wp2_with fail
                    refine (refUnit_any xc _).mono ?_; rintro e w8 ⟨rfl, hb8⟩
                    have hB8 := below_s hB7 hb8
                    have hM8 := Lib.hid (hM7.out.below hb8)
                    have z0 := keep_b hb8 z0
                    have z1 := keep_b hb8 z1
                    clear hb8 hM7 hB7
                    have hn4 := hM8.out.pg 0 (by omega)
                    have n0 := hn4.n
                    have nf0 := hn4.nf
                    clear hn4
                    have hnn := hE.out.most hq.out
                    have hdm := dem_bound q
                    by_cases h8 : 8 ≤ xc
                    · have hx23 : xc ≤ 23 := by have := hEe.out; omega
                      have hpb : 0 ≤ pagesT xc ∧ pagesT xc ≤ 16 := by have := en_run h8 hx23; omega
                      have hm := Lib.hid (hEn.out.del h8)
                      go_wp2_with fail
                      go_still_tail 5, (by kernel_rfl)
                      still_call (refPages_any xc _)
                      repeat still_step
                      refine wpStill_nil ?_
                      change wpList _ _ _ _ _ w8.drew
                      go_wp2_with fail
                      go_meet
                      case rel => exact ⟨A0 ++ B0, L, v, _, _, rfl, hm.out, (hM8.out.setN (by omega) (n - pagesT xc)).below (Below.drew (Below.refl _ _)), hTl'.out, fun d hd => by have := hL.out d hd; omega, (hB8.setCell (p := ⟨w.heap.size + 1, 0, none⟩) (by simp) _).drew⟩
                    · have hEe' := hEe.out
                      obtain ⟨c, rfl⟩ : ∃ c : Nat, xc = c := ⟨xc.toNat, by omega⟩
                      obtain ⟨p, rfl⟩ : ∃ p : Nat, xp = p := ⟨xp.toNat, by omega⟩
                      have hc8 : c < 8 := by omega
                      have hc24 : (c : Int) < 24 := by omega
                      clear hEe'
                      obtain ⟨hpl, hx1, hsub⟩ := hEn.out.sub hc8
                      have hPg := hM8.out.pg c hc8
                      have hgw := (hM.out.pg c hc8).own
                      have hLc := hL.out c hc8
                      have hsmall := hE.out.small hq.out hc8 _ (List.getElem_mem hpl)
                      have hgd : (L c).getD p 0 = (L c)[p] := by simp [List.getD_eq_getElem?_getD, hpl]
                      rw [hgd] at hx1 hsub
                      rcases hPg.own.2 with ⟨_, h0⟩ | ⟨gk, capk, curk, hvk, hbk, _⟩
                      · omega
                      have hgk : (v c).ownBlock = some gk := by rw [hvk]; rfl
                      have hgl := own_lt hgw hgk
                      have hpc := hPg.p
                      have hown := hPg.own
                      rw [hvk] at hpc hown
                      have hcell := own_ints hown hpl
                      have hcf := hown.frozenAt p
                      have hgB : ¬ (w.heap.size = gk) := fun e => hPg.np (by rw [hgk, e])
                      have hgN : ¬ (w.heap.size + 1 = gk) := fun e => hPg.nn (by rw [hgk, e])
                      have hset := Lib.hid (hM8.out.setP hc8 hgk hpl ((L c)[p] - 1))
                      clear hown hPg hgw hgd
                      replace hgk := Lib.hid hgk
                      replace hvk := Lib.hid hvk
                      have hlen : Hid ((upd L c ((L c).set p ((L c)[p] - 1))) c = (L c).set p ((L c)[p] - 1)) := Lib.hid upd_same
                      have hup := Lib.hid (upd_len (L := L) (c := c) (L' := (L c).set p ((L c)[p] - 1)) hL.out (by rw [List.length_set]; omega))
                      replace hsub := Lib.hid hsub
                      generalize hLeq : upd L c ((L c).set p ((L c)[p] - 1)) = L2 at *
                      clear hLeq hlen
                      generalize (L c)[p] = x at *
                      have hpt : ((p : Int)).toNat = p := by omega
                      have hpi : (p : Int) < ((L c).length : Int) := by omega
                      generalize (L c).length = lc at *
                      go_wp2_with fail
                      go_still_tail 10, (by kernel_rfl)
                      change wpList _ _ _ _ _ w8.drew
                      go_upto_region 26 with fail
                      refine wp_name (fun W => EnMem W (w.heap.size + 2) w.heap.size (w.heap.size + 1) v L2 n v7 (A0 ++ B0) ∧ Below w.heap.size w W ∧ W.cell? ⟨wr.heap.size + 1, 0, none⟩ = some (.int .i64 c) ∧ W.cell? ⟨wr.heap.size + 1, 1, none⟩ = some (.int .i64 p) ∧ W.cell? ⟨w.heap.size, c, none⟩ = some (.slice (some ⟨gk, 0, none⟩) lc capk) ∧ W.cell? ⟨gk, p, none⟩ = some (.int .i64 (x - 1)) ∧ W.cell? ⟨w.heap.size + 1, 0, none⟩ = some (.int .i64 n) ∧ W.frozen? ⟨w.heap.size + 1, 0, none⟩ = false) ⟨?_, ?_, ?_, ?_, ?_, ?_, ?_, ?_⟩ ?_
                      · exact hset.out.below (Below.drew (Below.refl _ _))
                      · exact (hB8.setCell (p := ⟨gk, p, none⟩) (by have : w.heap.size + 2 ≤ gk := hbk; show w.heap.size ≤ gk; omega) _).drew
                      · exact keep_drew (keep_set (addr_ne (by show gk ≠ wr.heap.size + 1; omega)) z0)
                      · exact keep_drew (keep_set (addr_ne (by show gk ≠ wr.heap.size + 1; omega)) z1)
                      · exact keep_drew (keep_set (addr_ne (fun e => hgB e.symm)) hpc)
                      · exact keep_drew (set_same (is_of hcell))
                      · exact keep_drew (keep_set (addr_ne (fun e => hgN e.symm)) n0)
                      · exact (keepf_set nf0 : (w8.setCell ⟨gk, p, none⟩ (.int .i64 (x - 1))).frozen? ⟨w.heap.size + 1, 0, none⟩ = false)
                      rintro W3 ⟨hM9, hB9, z0, z1, hpc9, hcell9, n9, nf9⟩
                      replace hM9 := Lib.hid hM9
                      clear hset hM8 hcell hcf hpc n0 nf0
                      go_still (by kernel_rfl)
                      change Exit.then _ _ _ _ W3.drew
                      by_cases hx0 : x - 1 = 0
                      · have hs := hsub.out
                        rw [if_pos hx0] at hs
                        replace hs := Lib.hid hs
                        have hb0 : (x - 1 == 0) = true := beq_iff_eq.2 hx0
                        go_wp2_with fail
                        go_meet
                        case rel => exact ⟨A0 ++ B0, L2, v, _, _, rfl, hs.out, (hM9.out.setN (by omega) (n - 1)).below (Below.drew (Below.refl _ _)), hTl'.out, hup.out, (hB9.setCell (p := ⟨w.heap.size + 1, 0, none⟩) (by simp) _).drew⟩
                      · have hs := hsub.out
                        rw [if_neg hx0] at hs
                        replace hs := Lib.hid hs
                        have hb0 : (x - 1 == 0) = false := beq_eq_false_iff_ne.2 hx0
                        go_wp2_with fail
                        go_meet
                        case rel => exact ⟨A0 ++ B0, L2, v, _, _, rfl, hs.out, hM9.out.below (Below.drew (Below.refl _ _)), hTl'.out, hup.out, hB9.drew⟩
            case rest =>
              obtain ⟨T', L', v', c', n', rfl, hE', hM', hT', hL', hB'⟩ := hcut
              have hnc := (hM'.pg 0 (by omega)).n
              have hmost := hE'.most hq.out
              have hqq := may_iff.1 hq.out
              have hdm := dem_bound q
              have pg := Lib.hid (fun w => pages_F q (demT q) w (okS_iff.2 (by omega)))
              have hle : ¬ demT q < n' := by omega
              have hby := Lib.hid hE'.by_
              replace hE' := Lib.hid hE'
              replace hM' := Lib.hid hM'
              replace hT' := Lib.hid hT'
              replace hL' := Lib.hid hL'
              clear hmost hqq hdm hE hM hT hL x0 x1 h0 h1
              go_wp2_with fail
              go_region_held3 (fun W => W.cell? ⟨w.heap.size + 1, 0, none⟩ = some (.int .i64 n') ∧ Below wc.heap.size wc W) (((try dsimp only at *); go_split_ands; refine ⟨?_, ?_⟩ <;> (first | with_reducible assumption | with_reducible exact keep_drew (by with_reducible assumption) | with_reducible exact Below.drew (Below.refl _ _) | with_reducible exact Below.drew (by with_reducible assumption)))) (first | (go_at_call 17; refine (pg.out _).mono ?_; rintro e w' ⟨rfl, hw⟩; obtain rfl := hw.symm; clear hw))
              go_split_ands
              go_wp2_with fail
              have hM2 := Lib.hid (hM'.out.below (Below.drew (Below.refl _ _)))
              have hB2 : Below w.heap.size w wc.drew := hB'.drew
              clear hM' hnc hle
              generalize wc.drew = W2 at *
              go_loopg [160] 8 (fun g i wx => W2 = wx ∧ ∃ k : Nat, k ≤ 8 ∧ g = 8 - k ∧ i = .int .i64 k)
              case atStart => exact ⟨rfl, 0, by omega, rfl, rfl⟩
              case round =>
                obtain ⟨rfl, k, hk, rfl, rfl⟩ := hrel
                by_cases hk8 : k < 8
                · have d8 : decide ((k : Int) < 8) = true := decide_eq_true (by omega)
                  have hP := hM2.out.pg k hk8
                  have hpc := hP.p
                  have hbk := hby.out k hk8
                  have hown := hP.own
                  have hLk := hL'.out k hk8
                  have hll := live_len (L' k)
                  clear hP
                  generalize v' k = vk at hpc hown
                  generalize L' k = Lk at hown hbk hLk hll
                  rcases hown.2 with ⟨rfl, h0⟩ | ⟨gk, cap, cur, rfl, _⟩
                  · obtain rfl : Lk = [] := List.eq_nil_of_length_eq_zero h0
                    simp only [live] at hbk
                    have hb0 : decide (byT k q < 0) = false := decide_eq_false (by omega)
                    clear hbk
                    clear hown hLk hll
                    go_wp2_with fail
                    replace hk8 := Lib.hid hk8
                    go_loopg [19, 167] 0 (fun g lv i wx => W2 = wx ∧ g = 0 ∧ i = .int .i64 0 ∧ lv = .int .i64 0)
                    case atStart => exact ⟨rfl, rfl, rfl, rfl⟩
                    case round =>
                      obtain ⟨rfl, rfl, rfl, rfl⟩ := hrel
                      go_wp2_with fail
                      refine (by_any _ _ _).mono ?_; rintro e w' ⟨rfl, hw⟩; obtain rfl := hw.symm; clear hw
                      go_wp2_with fail
                      go_roundg (8 - (k + 1))
                      case measure => have := hk8.out; omega
                      case rel => exact ⟨rfl, k + 1, by have := hk8.out; omega, rfl, by go_num⟩
                  · have hcells : Hid (∀ m (h : m < Lk.length), W2.cell? ⟨gk, m, none⟩ = some (.int .i64 Lk[m])) := Lib.hid (fun m h => own_ints hown h)
                    clear hown
                    go_wp2_with fail
                    replace hk8 := Lib.hid hk8
                    go_loopg [19, 167] Lk.length (fun g lv i wx => W2 = wx ∧ ∃ m : Nat, m ≤ Lk.length ∧ g = Lk.length - m ∧ i = .int .i64 m ∧ lv = .int .i64 (live (Lk.take m)))
                    case atStart => exact ⟨rfl, 0, Nat.zero_le _, rfl, rfl, rfl⟩
                    case round =>
                      obtain ⟨rfl, m, hm, rfl, rfl, rfl⟩ := hrel
                      by_cases hml : m < Lk.length
                      · have hx := hcells.out m hml
                        have hlt2 := live_take hml
                        have hb1 := live_len (Lk.take m)
                        have hnn := live_nonneg (Lk.take m)
                        rw [List.length_take] at hb1
                        have hi := IntWalk.i64_in (live (Lk.take m) + 1) (by omega)
                        generalize Lk[m] = x at hx hlt2
                        by_cases hxp : 0 < x
                        · rw [if_pos hxp] at hlt2
                          replace hlt2 := Lib.hid hlt2
                          go_wp2_with fail
                          go_roundg (Lk.length - (m + 1))
                          case measure => omega
                          case rel => exact ⟨rfl, m + 1, by omega, rfl, by go_num, by rw [hlt2.out]⟩
                        · rw [if_neg hxp, Int.add_zero] at hlt2
                          replace hlt2 := Lib.hid hlt2
                          go_wp2_with fail
                          go_roundg (Lk.length - (m + 1))
                          case measure => omega
                          case rel => exact ⟨rfl, m + 1, by omega, rfl, by go_num, by rw [hlt2.out]⟩
                      · obtain rfl : m = Lk.length := by omega
                        rw [List.take_length]
                        have hle2 : ¬ byT k q < live Lk := by omega
                        go_wp2_with fail
                        refine (by_any _ _ _).mono ?_; rintro e w' ⟨rfl, hw⟩; obtain rfl := hw.symm; clear hw
                        go_wp2_with fail
                        go_roundg (8 - (k + 1))
                        case measure => have := hk8.out; omega
                        case rel => exact ⟨rfl, k + 1, by have := hk8.out; omega, rfl, by go_num⟩
                · obtain rfl : k = 8 := by omega
                  go_wp2_with fail
                  go_roundg (xs.length - (j + 1))
                  case measure => omega
                  case rel => exact ⟨j + 1, T', L', v', c', n', by omega, rfl, by go_num, rfl, hE'.out, hM2.out, hT'.out, hL'.out, hB2⟩
          · obtain rfl : j = xs.length := by omega
            go_wp2_with fail
            go_ret
            exact ⟨rfl, hB⟩
      · replace hl2 : 1000 < np := by omega
        go_enter Try.func4, Try.ntmps4
        go_wp2_with fail
        refine (o1.out _).mono ?_; rintro e w' ⟨rfl, hw⟩; obtain rfl := hw.symm; clear hw
        go_wp2_with fail
        refine (aw.out _).mono ?_; rintro e w' ⟨rfl, hw⟩; obtain rfl := hw.symm; clear hw
        go_wp2_with fail
        refine (aw.out _).mono ?_; rintro e w' ⟨rfl, hw⟩; obtain rfl := hw.symm; clear hw
        go_wp2_with fail
        go_ret
        exact ⟨rfl, Below.refl _ _⟩
    · replace hl1 : 2000 < na := by omega
      go_enter Try.func4, Try.ntmps4
      go_wp2_with fail
      refine (o1.out _).mono ?_; rintro e w' ⟨rfl, hw⟩; obtain rfl := hw.symm; clear hw
      go_wp2_with fail
      refine (aw.out _).mono ?_; rintro e w' ⟨rfl, hw⟩; obtain rfl := hw.symm; clear hw
      go_wp2_with fail
      refine (aw.out _).mono ?_; rintro e w' ⟨rfl, hw⟩; obtain rfl := hw.symm; clear hw
      go_wp2_with fail
      go_ret
      exact ⟨rfl, Below.refl _ _⟩

end Go.Proofs.Ytjjdnmlfhankjaa
