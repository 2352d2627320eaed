/- QuotaPlays: the walk. -/
import Derived.Test.YtmgcaljaaemoaaaQuoS
import Derived.RegionTactic
import Derived.Deep.RegionHeld3
namespace Go.Proofs.Ytmgcaljaaemoaaa
open Go.RowKit Flt
set_option linter.unusedVariables false

theorem Rat_newL (w : World) (b p : Int) : Rat (w.alloc (.cells #[.int .i64 b, .int .i64 p, .int .i64 0, .int .i64 0, .int .i64 0, .int .i64 0] 46)) w.heap.size ⟨b, p, 0, 0, 0, 0⟩ := heap_alloc_new w _

set_option maxRecDepth 20000 in
set_option maxHeartbeats 8000000 in
theorem quotaPlays_walk (b p : Int) (A : Option Addr) (n c : Nat) (xs : List O6) (w : World) (hn : xs.length = n) (hmax : n ≤ maxLen) (hops : opsAt w A xs) :
    Calls Try.prog 6 #[.int .i64 b, .int .i64 p, .slice A n c] w fun e w' => e = .returned (.bool true) ∧ Below w.heap.size w w' := by
  have aw := Lib.hid (fun w => awake6 w)
  cases hb : okS b p with
  | false =>
    have l1 := Lib.hid (fun w => lawOf_no b p w hb)
    have n1 := Lib.hid (fun w => new_no (-1) 0 w (by decide) (by decide) (ok_not (by omega)))
    go_enter Try.func6, Try.ntmps6
    go_wp2_with fail
    refine (l1.out _).mono ?_; rintro e w1 ⟨rfl, hb1⟩
    go_wp2_with fail
    refine (n1.out _).mono ?_; rintro e w' ⟨rfl, hw⟩; obtain rfl := hw.symm; clear hw
    go_wp2_with fail
    refine (aw.out _).mono ?_; rintro e w3 ⟨rfl, hb3⟩
    have hB3 : Below w.heap.size w w3 := below_s (below_alloc hb1.size hb1) hb3
    go_wp2_with fail
    go_ret
    exact ⟨rfl, hB3⟩
  | true =>
    have l1 := Lib.hid (fun w => lawOf_yes b p w hb)
    have n1 := Lib.hid (fun w => new_Q b p w hb)
    by_cases hlen : n ≤ 1000
    · have hwf1 := newQ_wf hb
      replace hb := Lib.hid hb
      replace hops := Lib.hid hops
      go_enter Try.func6, Try.ntmps6
      go_wp2_with fail
      refine (l1.out _).mono ?_; rintro e w1 ⟨rfl, hb1⟩
      go_wp2_with fail
      have hsz := hb1.size
      refine (n1.out _).mono ?_; rintro e w5 ⟨rfl, hQ, hb5⟩
      simp only [World.size_alloc] at hQ
      have t0 : w5.cell? ⟨w1.heap.size, 0, none⟩ = some (.int .i64 b) := keep_b hb5 (new_cell rfl)
      have t1 : w5.cell? ⟨w1.heap.size, 1, none⟩ = some (.int .i64 p) := keep_b hb5 (new_cell rfl)
      have hB5 : Below w.heap.size w w5 := below_s (below_alloc hb1.size hb1) hb5
      clear hb5 hb1
      go_wp2_with fail
      refine (aw.out _).mono ?_; rintro e w3 ⟨rfl, hb3⟩
      have t0 := keep_b hb3 t0
      have t1 := keep_b hb3 t1
      have hQ := hQ.below hb3
      have hB3 : Below w.heap.size w w3 := below_s hB5 hb3
      clear hb3 hB5
      go_wp2_with fail
      have hR : Rat (w3.alloc (.cells #[.int .i64 b, .int .i64 p, .int .i64 0, .int .i64 0, .int .i64 0, .int .i64 0] 46)) w3.heap.size ⟨b, p, 0, 0, 0, 0⟩ := Rat_newL w3 b p
      have hql := hQ.cells.2.2
      have hQ : Qat (w3.alloc (.cells #[.int .i64 b, .int .i64 p, .int .i64 0, .int .i64 0, .int .i64 0, .int .i64 0] 46)) (w1.heap.size + 1) ⟨b, p, 0, 0, 0, 0⟩ := hQ.only (bs := fun _ => False) ((Only.refl _ _).alloc _) (fun q => q)
      have hB4 : Below w.heap.size w (w3.alloc (.cells #[.int .i64 b, .int .i64 p, .int .i64 0, .int .i64 0, .int .i64 0, .int .i64 0] 46)) := below_alloc hB3.size hB3
      generalize hqb : w1.heap.size + 1 = qa at hQ
      have hwq : w.heap.size ≤ w3.heap.size := hB3.size
      have hne : qa ≠ w3.heap.size := by omega
      have hlq : w.heap.size ≤ qa := by omega
      clear hql hB3 t0 t1
      generalize hwb : w3.heap.size = wb at hR hne hwq
      go_loopw [10, 54] (fun x i wr => ∃ (j : Nat) (q : QS) (qb : Nat), j ≤ xs.length ∧ x = .pointer (some ⟨qb, 0, none⟩) ∧ i = .int .i64 j ∧ q.wf ∧ Qat wr qb q ∧ Rat wr wb q ∧ qb ≠ wb ∧ w.heap.size ≤ qb ∧ Below w.heap.size w wr) (fun _ i _ => xs.length - (intOf i).toNat)
      case atStart => exact ⟨0, ⟨b, p, 0, 0, 0, 0⟩, qa, Nat.zero_le _, rfl, rfl, hwf1, hQ, hR, hne, hlq, hB4⟩
      case round =>
        clear hQ hwf1 hR hne hlq hB4 hqb
        obtain ⟨j, q, qb, hj, rfl, rfl, hq, hQ, hR, hne, hlq, hB⟩ := hrel
        by_cases hlt : j < xs.length
        · obtain ⟨ob, off, rfl, hcs⟩ := hops.out (by omega)
          have hcj := hcs j hlt
          clear hcs
          generalize xs[j] = z at hcj
          obtain ⟨K1, B1, P1⟩ := z
          obtain ⟨h0, h1, h2⟩ := hcj
          have x0 : wr.cell? ⟨ob, off + j * 3, none⟩ = some (.int .i64 K1) := keep_b hB h0
          have x1 : wr.cell? ⟨ob, off + j * 3 + 1, none⟩ = some (.int .i64 B1) := keep_b hB h1
          have x2 : wr.cell? ⟨ob, off + j * 3 + 2, none⟩ = some (.int .i64 P1) := keep_b hB h2
          clear h0 h1 h2
          have hwl := hR.cells.2.2
          have hvl := hQ.cells.2.2
          by_cases hk : 1 ≤ K1 ∧ K1 ≤ 5
          · have k1 : ¬ K1 < 1 := by omega
            have k2 : ¬ 5 < K1 := by omega
            have hq := Lib.hid hq
            clear hk
            go_wp2_with fail
            refine wp_name (fun W => Qat W qb q ∧ Rat W wb q ∧ W.cell? ⟨wr.heap.size, 0, none⟩ = some (.int .i64 K1) ∧ W.cell? ⟨wr.heap.size, 1, none⟩ = some (.int .i64 B1) ∧ W.cell? ⟨wr.heap.size, 2, none⟩ = some (.int .i64 P1) ∧ Below w.heap.size w W) ⟨hQ.only (bs := fun _ => False) ((Only.refl _ _).alloc _) (fun q => q), hR.only (bs := fun _ => False) ((Only.refl _ _).alloc _) (fun q => q), new_cell rfl, new_cell rfl, new_cell rfl, below_alloc hB.size hB⟩ ?_
            clear hQ hR hB x0 x1 x2 k1 k2
            rintro W ⟨hQ, hR, t0, t1, t2, hB⟩
            refine wp_region_noPanic ?_
            refine wp_region_any (by kernel_rfl) ?_
            change wpAny _ _ _ _ _ _ _ (World.drew _)
            refine wpAny_take (i := 0) (oi := { dst := some 72, op := Op.move (Operand.tmp 10), type := 30, pos := "law.go:97", after := #[], guard := none }) (v := ?_) rfl (by kernel_rfl) (by kernel_rfl) (by kernel_rfl) (fun _ _ _ h => h) (Or.inl ⟨rfl, ?_⟩) ?_
            rotate_left
            · (intro w; first | (go_simp; done) | (go_simp; with_reducible rfl))
            try simp only [Act.put, List.setIfInBounds_toArray, List.set_cons_zero, List.set_cons_succ]
            refine wpAny_take (i := 1) (oi := { dst := some 73, op := Op.move (Operand.tmp 12), type := 44, pos := "law.go:97", after := #[], guard := none }) (v := ?_) rfl (by kernel_rfl) (by kernel_rfl) (by kernel_rfl) (fun _ _ _ h => h) (Or.inl ⟨rfl, ?_⟩) ?_
            rotate_left
            · (intro w; first | (go_simp; done) | (go_simp; with_reducible rfl))
            try simp only [Act.put, List.setIfInBounds_toArray, List.set_cons_zero, List.set_cons_succ]
            refine wpAny_ready (rs := [2]) (by kernel_rfl) (by simp) ?_
            refine AllReady.cons (o := { dst := some 74, op := Op.load 23 (Operand.tmp 14), type := 23, pos := "law.go:97", after := #[], guard := none }) rfl (fun K hK0 => ?_) AllReady.nil
            have hK := Lib.hid hK0
            clear hK0
            go_simp
            refine hK.out _ _ ?_
            clear hK
            try simp only [Act.put, List.setIfInBounds_toArray, List.set_cons_zero, List.set_cons_succ]
            refine wpAny_ready (rs := [3]) (by kernel_rfl) (by simp) ?_
            refine AllReady.cons (o := { dst := some 75, op := Op.call { callee := Callee.value (Operand.func 20), args := #[Operand.tmp 72, Operand.tmp 73, Operand.tmp 74], argTypes := #[30, 44, 23] }, type := 4, pos := "law.go:97", after := #[{ on := 0, ground := Ground.data }, { on := 1, ground := Ground.data }, { on := 2, ground := Ground.data }], guard := none }) rfl (fun K hK0 => ?_) AllReady.nil
            have hK := Lib.hid hK0
            clear hK0
            go_simp
            refine (done_any qb wb q q K1 B1 P1 _ (show Qat W.drew qb q from hQ) (show Rat W.drew wb q from hR) hq.out hq.out hne).mono ?_
            rintro e w6 ⟨x, rfl, hx, hQ6, hR6, ho6⟩
            obtain rfl := hx rfl
            go_wp2_with fail
            refine hK.out _ _ ?_
            clear hK
            try simp only [Act.put, List.setIfInBounds_toArray, List.set_cons_zero, List.set_cons_succ]
            have hw6 : (q.next K1 B1 P1).wf := QS.next_wf hq.out K1 B1 P1
            have hB6 : Below w.heap.size w w6 := hB.drew.trans (ho6.below (by have := hB.size; exact this) (fun k hk he => by omega))
            clear hQ hR hx ho6 t0 t1 t2
            generalize q.next K1 B1 P1 = q' at hQ6 hR6 hw6
            obtain ⟨k1, k2, k3, _⟩ := QS.ok hw6
            have s1 := Lib.hid (fun w => same_yes q'.lB q'.lP w k1)
            have s2 := Lib.hid (fun w => same_yes q'.cB q'.cP w k2)
            have s3 := Lib.hid (fun w => same_yes q'.rB q'.rP w k3)
            clear k1 k2 k3
            replace hw6 := Lib.hid hw6
            have hHeld : (fun W => W.heap[qb]? = some (.cells (quoCells q') 54 (0, 0)) ∧ W.cell? ⟨wb, 0, none⟩ = some (.int .i64 q'.lB) ∧ W.cell? ⟨wb, 1, none⟩ = some (.int .i64 q'.lP) ∧ W.cell? ⟨wb, 2, none⟩ = some (.int .i64 q'.cB) ∧ W.cell? ⟨wb, 3, none⟩ = some (.int .i64 q'.cP) ∧ W.cell? ⟨wb, 4, none⟩ = some (.int .i64 q'.rB) ∧ W.cell? ⟨wb, 5, none⟩ = some (.int .i64 q'.rP) ∧ Below w6.heap.size w6 W) w6 := ⟨hQ6, hR6.cells.1.1, hR6.cells.1.2.1, hR6.cells.1.2.2.1, hR6.cells.1.2.2.2.1, hR6.cells.1.2.2.2.2.1, hR6.cells.1.2.2.2.2.2, Below.refl _ _⟩
            refine wpAny_of_held (S := (fun W => W.heap[qb]? = some (.cells (quoCells q') 54 (0, 0)) ∧ W.cell? ⟨wb, 0, none⟩ = some (.int .i64 q'.lB) ∧ W.cell? ⟨wb, 1, none⟩ = some (.int .i64 q'.lP) ∧ W.cell? ⟨wb, 2, none⟩ = some (.int .i64 q'.cB) ∧ W.cell? ⟨wb, 3, none⟩ = some (.int .i64 q'.cP) ∧ W.cell? ⟨wb, 4, none⟩ = some (.int .i64 q'.rB) ∧ W.cell? ⟨wb, 5, none⟩ = some (.int .i64 q'.rP) ∧ Below w6.heap.size w6 W)) _ _ _ _ ?_
            refine wpAnyH_take (i := 4) (oi := { dst := some 76, op := Op.unOp UnOp.not 4 (Operand.tmp 75), type := 4, pos := "law.go:97", after := #[{ on := 3, ground := Ground.data }], guard := none }) (v := ?_) rfl (by kernel_rfl) (by kernel_rfl) (by kernel_rfl) (fun _ _ _ h => h) (Or.inl ⟨rfl, ?_⟩) (by assumption) ?_
            rotate_left
            · (intro w hSw; (try dsimp only at hSw); first | (go_simp; done) | (go_simp; with_reducible rfl))
            try simp only [Act.put, List.setIfInBounds_toArray, List.set_cons_zero, List.set_cons_succ]
            refine wpAnyH_take (i := 5) (oi := { dst := some 77, op := Op.move (Operand.tmp 76), type := 4, pos := "law.go:97", after := #[{ on := 4, ground := Ground.data }, { on := 3, ground := Ground.chain }], guard := none }) (v := ?_) rfl (by kernel_rfl) (by kernel_rfl) (by kernel_rfl) (fun _ _ _ h => h) (Or.inl ⟨rfl, ?_⟩) (by assumption) ?_
            rotate_left
            · (intro w hSw; (try dsimp only at hSw); first | (go_simp; done) | (go_simp; with_reducible rfl))
            try simp only [Act.put, List.setIfInBounds_toArray, List.set_cons_zero, List.set_cons_succ]
            refine wpAnyH_take (i := 6) (oi := { dst := some 78, op := Op.move (Operand.tmp 10), type := 30, pos := "law.go:97", after := #[{ on := 5, ground := Ground.guard }], guard := some (5, false) }) (v := ?_) rfl (by kernel_rfl) (by kernel_rfl) (by kernel_rfl) (fun _ _ _ h => h) (Or.inl ⟨rfl, ?_⟩) (by assumption) ?_
            rotate_left
            · (intro w hSw; (try dsimp only at hSw); first | (go_simp; done) | (go_simp; with_reducible rfl))
            try simp only [Act.put, List.setIfInBounds_toArray, List.set_cons_zero, List.set_cons_succ]
            refine wpAnyH_take (i := 8) (oi := { dst := some 80, op := Op.move (Operand.tmp 12), type := 44, pos := "law.go:97", after := #[{ on := 5, ground := Ground.guard }], guard := some (5, false) }) (v := ?_) rfl (by kernel_rfl) (by kernel_rfl) (by kernel_rfl) (fun _ _ _ h => h) (Or.inl ⟨rfl, ?_⟩) (by assumption) ?_
            rotate_left
            · (intro w hSw; (try dsimp only at hSw); first | (go_simp; done) | (go_simp; with_reducible rfl))
            try simp only [Act.put, List.setIfInBounds_toArray, List.set_cons_zero, List.set_cons_succ]
            refine wpAnyH_take (i := 9) (oi := { dst := some 81, op := Op.nilCheck (Operand.tmp 80), type := 0, pos := "law.go:97", after := #[{ on := 8, ground := Ground.data }, { on := 5, ground := Ground.guard }], guard := some (5, false) }) (v := ?_) rfl (by kernel_rfl) (by kernel_rfl) (by kernel_rfl) (fun _ _ _ h => h) (Or.inl ⟨rfl, ?_⟩) (by assumption) ?_
            rotate_left
            · (intro w hSw; (try dsimp only at hSw); first | (go_simp; done) | (go_simp; with_reducible rfl))
            try simp only [Act.put, List.setIfInBounds_toArray, List.set_cons_zero, List.set_cons_succ]
            refine wpAnyH_take (i := 10) (oi := { dst := some 82, op := Op.fieldAddr 46 (Operand.tmp 81) 0, type := 0, pos := "law.go:97", after := #[{ on := 9, ground := Ground.data }, { on := 5, ground := Ground.guard }], guard := some (5, false) }) (v := ?_) rfl (by kernel_rfl) (by kernel_rfl) (by kernel_rfl) (fun _ _ _ h => h) (Or.inl ⟨rfl, ?_⟩) (by assumption) ?_
            rotate_left
            · (intro w hSw; (try dsimp only at hSw); first | (go_simp; done) | (go_simp; with_reducible rfl))
            try simp only [Act.put, List.setIfInBounds_toArray, List.set_cons_zero, List.set_cons_succ]
            refine wpAnyH_take (i := 11) (oi := { dst := some 83, op := Op.load 27 (Operand.tmp 82), type := 27, pos := "law.go:97", after := #[{ on := 10, ground := Ground.data }, { on := 5, ground := Ground.guard }], guard := some (5, false) }) (v := ?_) rfl (by kernel_rfl) (by kernel_rfl) (by kernel_rfl) (fun _ _ _ h => h) (Or.inl ⟨rfl, ?_⟩) (by assumption) ?_
            rotate_left
            · (intro w hSw; (try dsimp only at hSw); first | (go_simp; done) | (go_simp; with_reducible rfl))
            try simp only [Act.put, List.setIfInBounds_toArray, List.set_cons_zero, List.set_cons_succ]
            refine wpAnyH_ready (rs := [7]) (by kernel_rfl) (by simp) ?_
            refine AllReadyH.cons (o := { dst := some 79, op := Op.call { callee := Callee.value (Operand.func 19), args := #[Operand.tmp 78], argTypes := #[30] }, type := 25, pos := "law.go:97", after := #[{ on := 6, ground := Ground.data }, { on := 5, ground := Ground.chain }, { on := 5, ground := Ground.guard }], guard := some (5, false) }) rfl (fun K hK => ?_) AllReadyH.nil
            go_simp
            refine (limit_any qb q' _ hHeld.1).mono ?_; rintro e w' ⟨rfl, hw⟩; obtain rfl := hw.symm; clear hw
            go_wp2_with fail
            refine hK.out _ _ ?_ (fun hHeld => ?_)
            · (try dsimp only)
              ((try dsimp only at *); go_split_ands; refine ⟨?_, ?_, ?_, ?_, ?_, ?_, ?_, ?_⟩ <;> (first | with_reducible assumption | with_reducible exact keep_b hb2 (by with_reducible assumption) | exact heap_b hb2 (by with_reducible assumption) | with_reducible exact below_s (by with_reducible assumption) hb2))
            clear hK
            try simp only [Act.put, List.setIfInBounds_toArray, List.set_cons_zero, List.set_cons_succ]
            refine wpAnyH_ready (rs := [12]) (by kernel_rfl) (by simp) ?_
            refine AllReadyH.cons (o := { dst := some 84, op := Op.call { callee := Callee.value (Operand.func 22), args := #[Operand.tmp 79, Operand.tmp 83], argTypes := #[25, 27] }, type := 4, pos := "law.go:97", after := #[{ on := 7, ground := Ground.data }, { on := 11, ground := Ground.data }, { on := 7, ground := Ground.chain }, { on := 5, ground := Ground.guard }], guard := some (5, false) }) rfl (fun K hK => ?_) AllReadyH.nil
            go_simp
            refine (s1.out _).mono ?_; rintro e w2 ⟨rfl, hb2⟩
            go_wp2_with fail
            refine hK.out _ _ ?_ (fun hHeld => ?_)
            · (try dsimp only)
              ((try dsimp only at *); go_split_ands; refine ⟨?_, ?_, ?_, ?_, ?_, ?_, ?_, ?_⟩ <;> (first | with_reducible assumption | with_reducible exact keep_b hb2 (by with_reducible assumption) | exact heap_b hb2 (by with_reducible assumption) | with_reducible exact below_s (by with_reducible assumption) hb2))
            clear hK
            try simp only [Act.put, List.setIfInBounds_toArray, List.set_cons_zero, List.set_cons_succ]
            refine wpAnyH_take (i := 13) (oi := { dst := some 85, op := Op.unOp UnOp.not 4 (Operand.tmp 84), type := 4, pos := "law.go:97", after := #[{ on := 12, ground := Ground.data }, { on := 5, ground := Ground.guard }], guard := some (5, false) }) (v := ?_) rfl (by kernel_rfl) (by kernel_rfl) (by kernel_rfl) (fun _ _ _ h => h) (Or.inl ⟨rfl, ?_⟩) (by assumption) ?_
            rotate_left
            · (intro w hSw; (try dsimp only at hSw); first | (go_simp; done) | (go_simp; with_reducible rfl))
            try simp only [Act.put, List.setIfInBounds_toArray, List.set_cons_zero, List.set_cons_succ]
            refine wpAnyH_take (i := 14) (oi := { dst := some 86, op := Op.pick (Operand.tmp 77) (Operand.const (Value.bool true)) (Operand.tmp 85), type := 4, pos := "law.go:97", after := #[{ on := 5, ground := Ground.data }, { on := 13, ground := Ground.data }], guard := none }) (v := ?_) rfl (by kernel_rfl) (by kernel_rfl) (by kernel_rfl) (fun _ _ _ h => h) (Or.inl ⟨rfl, ?_⟩) (by assumption) ?_
            rotate_left
            · (intro w hSw; (try dsimp only at hSw); first | (go_simp; done) | (go_simp; with_reducible rfl))
            try simp only [Act.put, List.setIfInBounds_toArray, List.set_cons_zero, List.set_cons_succ]
            refine wpAnyH_take (i := 15) (oi := { dst := some 87, op := Op.move (Operand.tmp 86), type := 4, pos := "law.go:97", after := #[{ on := 14, ground := Ground.data }, { on := 12, ground := Ground.chain }], guard := none }) (v := ?_) rfl (by kernel_rfl) (by kernel_rfl) (by kernel_rfl) (fun _ _ _ h => h) (Or.inl ⟨rfl, ?_⟩) (by assumption) ?_
            rotate_left
            · (intro w hSw; (try dsimp only at hSw); first | (go_simp; done) | (go_simp; with_reducible rfl))
            try simp only [Act.put, List.setIfInBounds_toArray, List.set_cons_zero, List.set_cons_succ]
            refine wpAnyH_take (i := 16) (oi := { dst := some 88, op := Op.move (Operand.tmp 10), type := 30, pos := "law.go:97", after := #[{ on := 15, ground := Ground.guard }], guard := some (15, false) }) (v := ?_) rfl (by kernel_rfl) (by kernel_rfl) (by kernel_rfl) (fun _ _ _ h => h) (Or.inl ⟨rfl, ?_⟩) (by assumption) ?_
            rotate_left
            · (intro w hSw; (try dsimp only at hSw); first | (go_simp; done) | (go_simp; with_reducible rfl))
            try simp only [Act.put, List.setIfInBounds_toArray, List.set_cons_zero, List.set_cons_succ]
            refine wpAnyH_take (i := 18) (oi := { dst := some 90, op := Op.move (Operand.tmp 12), type := 44, pos := "law.go:97", after := #[{ on := 15, ground := Ground.guard }], guard := some (15, false) }) (v := ?_) rfl (by kernel_rfl) (by kernel_rfl) (by kernel_rfl) (fun _ _ _ h => h) (Or.inl ⟨rfl, ?_⟩) (by assumption) ?_
            rotate_left
            · (intro w hSw; (try dsimp only at hSw); first | (go_simp; done) | (go_simp; with_reducible rfl))
            try simp only [Act.put, List.setIfInBounds_toArray, List.set_cons_zero, List.set_cons_succ]
            refine wpAnyH_take (i := 19) (oi := { dst := some 91, op := Op.nilCheck (Operand.tmp 90), type := 0, pos := "law.go:97", after := #[{ on := 18, ground := Ground.data }, { on := 15, ground := Ground.guard }], guard := some (15, false) }) (v := ?_) rfl (by kernel_rfl) (by kernel_rfl) (by kernel_rfl) (fun _ _ _ h => h) (Or.inl ⟨rfl, ?_⟩) (by assumption) ?_
            rotate_left
            · (intro w hSw; (try dsimp only at hSw); first | (go_simp; done) | (go_simp; with_reducible rfl))
            try simp only [Act.put, List.setIfInBounds_toArray, List.set_cons_zero, List.set_cons_succ]
            refine wpAnyH_take (i := 20) (oi := { dst := some 92, op := Op.fieldAddr 46 (Operand.tmp 91) 1, type := 0, pos := "law.go:97", after := #[{ on := 19, ground := Ground.data }, { on := 15, ground := Ground.guard }], guard := some (15, false) }) (v := ?_) rfl (by kernel_rfl) (by kernel_rfl) (by kernel_rfl) (fun _ _ _ h => h) (Or.inl ⟨rfl, ?_⟩) (by assumption) ?_
            rotate_left
            · (intro w hSw; (try dsimp only at hSw); first | (go_simp; done) | (go_simp; with_reducible rfl))
            try simp only [Act.put, List.setIfInBounds_toArray, List.set_cons_zero, List.set_cons_succ]
            refine wpAnyH_take (i := 21) (oi := { dst := some 93, op := Op.load 27 (Operand.tmp 92), type := 27, pos := "law.go:97", after := #[{ on := 20, ground := Ground.data }, { on := 15, ground := Ground.guard }], guard := some (15, false) }) (v := ?_) rfl (by kernel_rfl) (by kernel_rfl) (by kernel_rfl) (fun _ _ _ h => h) (Or.inl ⟨rfl, ?_⟩) (by assumption) ?_
            rotate_left
            · (intro w hSw; (try dsimp only at hSw); first | (go_simp; done) | (go_simp; with_reducible rfl))
            try simp only [Act.put, List.setIfInBounds_toArray, List.set_cons_zero, List.set_cons_succ]
            refine wpAnyH_ready (rs := [17]) (by kernel_rfl) (by simp) ?_
            refine AllReadyH.cons (o := { dst := some 89, op := Op.call { callee := Callee.value (Operand.func 12), args := #[Operand.tmp 88], argTypes := #[30] }, type := 25, pos := "law.go:97", after := #[{ on := 16, ground := Ground.data }, { on := 15, ground := Ground.chain }, { on := 15, ground := Ground.guard }], guard := some (15, false) }) rfl (fun K hK => ?_) AllReadyH.nil
            go_simp
            refine (charged_any qb q' _ hHeld.1).mono ?_; rintro e w' ⟨rfl, hw⟩; obtain rfl := hw.symm; clear hw
            go_wp2_with fail
            refine hK.out _ _ ?_ (fun hHeld => ?_)
            · (try dsimp only)
              ((try dsimp only at *); go_split_ands; refine ⟨?_, ?_, ?_, ?_, ?_, ?_, ?_, ?_⟩ <;> (first | with_reducible assumption | with_reducible exact keep_b hb2 (by with_reducible assumption) | exact heap_b hb2 (by with_reducible assumption) | with_reducible exact below_s (by with_reducible assumption) hb2))
            clear hK
            try simp only [Act.put, List.setIfInBounds_toArray, List.set_cons_zero, List.set_cons_succ]
            refine wpAnyH_ready (rs := [22]) (by kernel_rfl) (by simp) ?_
            refine AllReadyH.cons (o := { dst := some 94, op := Op.call { callee := Callee.value (Operand.func 22), args := #[Operand.tmp 89, Operand.tmp 93], argTypes := #[25, 27] }, type := 4, pos := "law.go:97", after := #[{ on := 17, ground := Ground.data }, { on := 21, ground := Ground.data }, { on := 17, ground := Ground.chain }, { on := 15, ground := Ground.guard }], guard := some (15, false) }) rfl (fun K hK => ?_) AllReadyH.nil
            go_simp
            refine (s2.out _).mono ?_; rintro e w2 ⟨rfl, hb2⟩
            go_wp2_with fail
            refine hK.out _ _ ?_ (fun hHeld => ?_)
            · (try dsimp only)
              ((try dsimp only at *); go_split_ands; refine ⟨?_, ?_, ?_, ?_, ?_, ?_, ?_, ?_⟩ <;> (first | with_reducible assumption | with_reducible exact keep_b hb2 (by with_reducible assumption) | exact heap_b hb2 (by with_reducible assumption) | with_reducible exact below_s (by with_reducible assumption) hb2))
            clear hK
            try simp only [Act.put, List.setIfInBounds_toArray, List.set_cons_zero, List.set_cons_succ]
            refine wpAnyH_take (i := 23) (oi := { dst := some 95, op := Op.unOp UnOp.not 4 (Operand.tmp 94), type := 4, pos := "law.go:97", after := #[{ on := 22, ground := Ground.data }, { on := 15, ground := Ground.guard }], guard := some (15, false) }) (v := ?_) rfl (by kernel_rfl) (by kernel_rfl) (by kernel_rfl) (fun _ _ _ h => h) (Or.inl ⟨rfl, ?_⟩) (by assumption) ?_
            rotate_left
            · (intro w hSw; (try dsimp only at hSw); first | (go_simp; done) | (go_simp; with_reducible rfl))
            try simp only [Act.put, List.setIfInBounds_toArray, List.set_cons_zero, List.set_cons_succ]
            refine wpAnyH_take (i := 24) (oi := { dst := some 96, op := Op.pick (Operand.tmp 87) (Operand.const (Value.bool true)) (Operand.tmp 95), type := 4, pos := "law.go:97", after := #[{ on := 15, ground := Ground.data }, { on := 23, ground := Ground.data }], guard := none }) (v := ?_) rfl (by kernel_rfl) (by kernel_rfl) (by kernel_rfl) (fun _ _ _ h => h) (Or.inl ⟨rfl, ?_⟩) (by assumption) ?_
            rotate_left
            · (intro w hSw; (try dsimp only at hSw); first | (go_simp; done) | (go_simp; with_reducible rfl))
            try simp only [Act.put, List.setIfInBounds_toArray, List.set_cons_zero, List.set_cons_succ]
            refine wpAnyH_take (i := 25) (oi := { dst := some 97, op := Op.move (Operand.tmp 96), type := 4, pos := "law.go:97", after := #[{ on := 24, ground := Ground.data }, { on := 22, ground := Ground.chain }], guard := none }) (v := ?_) rfl (by kernel_rfl) (by kernel_rfl) (by kernel_rfl) (fun _ _ _ h => h) (Or.inl ⟨rfl, ?_⟩) (by assumption) ?_
            rotate_left
            · (intro w hSw; (try dsimp only at hSw); first | (go_simp; done) | (go_simp; with_reducible rfl))
            try simp only [Act.put, List.setIfInBounds_toArray, List.set_cons_zero, List.set_cons_succ]
            refine wpAnyH_take (i := 26) (oi := { dst := some 98, op := Op.move (Operand.tmp 10), type := 30, pos := "law.go:97", after := #[{ on := 25, ground := Ground.guard }], guard := some (25, false) }) (v := ?_) rfl (by kernel_rfl) (by kernel_rfl) (by kernel_rfl) (fun _ _ _ h => h) (Or.inl ⟨rfl, ?_⟩) (by assumption) ?_
            rotate_left
            · (intro w hSw; (try dsimp only at hSw); first | (go_simp; done) | (go_simp; with_reducible rfl))
            try simp only [Act.put, List.setIfInBounds_toArray, List.set_cons_zero, List.set_cons_succ]
            refine wpAnyH_take (i := 28) (oi := { dst := some 100, op := Op.move (Operand.tmp 12), type := 44, pos := "law.go:97", after := #[{ on := 25, ground := Ground.guard }], guard := some (25, false) }) (v := ?_) rfl (by kernel_rfl) (by kernel_rfl) (by kernel_rfl) (fun _ _ _ h => h) (Or.inl ⟨rfl, ?_⟩) (by assumption) ?_
            rotate_left
            · (intro w hSw; (try dsimp only at hSw); first | (go_simp; done) | (go_simp; with_reducible rfl))
            try simp only [Act.put, List.setIfInBounds_toArray, List.set_cons_zero, List.set_cons_succ]
            refine wpAnyH_take (i := 29) (oi := { dst := some 101, op := Op.nilCheck (Operand.tmp 100), type := 0, pos := "law.go:97", after := #[{ on := 28, ground := Ground.data }, { on := 25, ground := Ground.guard }], guard := some (25, false) }) (v := ?_) rfl (by kernel_rfl) (by kernel_rfl) (by kernel_rfl) (fun _ _ _ h => h) (Or.inl ⟨rfl, ?_⟩) (by assumption) ?_
            rotate_left
            · (intro w hSw; (try dsimp only at hSw); first | (go_simp; done) | (go_simp; with_reducible rfl))
            try simp only [Act.put, List.setIfInBounds_toArray, List.set_cons_zero, List.set_cons_succ]
            refine wpAnyH_take (i := 30) (oi := { dst := some 102, op := Op.fieldAddr 46 (Operand.tmp 101) 2, type := 0, pos := "law.go:97", after := #[{ on := 29, ground := Ground.data }, { on := 25, ground := Ground.guard }], guard := some (25, false) }) (v := ?_) rfl (by kernel_rfl) (by kernel_rfl) (by kernel_rfl) (fun _ _ _ h => h) (Or.inl ⟨rfl, ?_⟩) (by assumption) ?_
            rotate_left
            · (intro w hSw; (try dsimp only at hSw); first | (go_simp; done) | (go_simp; with_reducible rfl))
            try simp only [Act.put, List.setIfInBounds_toArray, List.set_cons_zero, List.set_cons_succ]
            refine wpAnyH_take (i := 31) (oi := { dst := some 103, op := Op.load 27 (Operand.tmp 102), type := 27, pos := "law.go:97", after := #[{ on := 30, ground := Ground.data }, { on := 25, ground := Ground.guard }], guard := some (25, false) }) (v := ?_) rfl (by kernel_rfl) (by kernel_rfl) (by kernel_rfl) (fun _ _ _ h => h) (Or.inl ⟨rfl, ?_⟩) (by assumption) ?_
            rotate_left
            · (intro w hSw; (try dsimp only at hSw); first | (go_simp; done) | (go_simp; with_reducible rfl))
            try simp only [Act.put, List.setIfInBounds_toArray, List.set_cons_zero, List.set_cons_succ]
            refine wpAnyH_ready (rs := [27]) (by kernel_rfl) (by simp) ?_
            refine AllReadyH.cons (o := { dst := some 99, op := Op.call { callee := Callee.value (Operand.func 13), args := #[Operand.tmp 98], argTypes := #[30] }, type := 25, pos := "law.go:97", after := #[{ on := 26, ground := Ground.data }, { on := 25, ground := Ground.chain }, { on := 25, ground := Ground.guard }], guard := some (25, false) }) rfl (fun K hK => ?_) AllReadyH.nil
            go_simp
            refine (reserved_any qb q' _ hHeld.1).mono ?_; rintro e w' ⟨rfl, hw⟩; obtain rfl := hw.symm; clear hw
            go_wp2_with fail
            refine hK.out _ _ ?_ (fun hHeld => ?_)
            · (try dsimp only)
              ((try dsimp only at *); go_split_ands; refine ⟨?_, ?_, ?_, ?_, ?_, ?_, ?_, ?_⟩ <;> (first | with_reducible assumption | with_reducible exact keep_b hb2 (by with_reducible assumption) | exact heap_b hb2 (by with_reducible assumption) | with_reducible exact below_s (by with_reducible assumption) hb2))
            clear hK
            try simp only [Act.put, List.setIfInBounds_toArray, List.set_cons_zero, List.set_cons_succ]
            refine wpAnyH_ready (rs := [32]) (by kernel_rfl) (by simp) ?_
            refine AllReadyH.cons (o := { dst := some 104, op := Op.call { callee := Callee.value (Operand.func 22), args := #[Operand.tmp 99, Operand.tmp 103], argTypes := #[25, 27] }, type := 4, pos := "law.go:97", after := #[{ on := 27, ground := Ground.data }, { on := 31, ground := Ground.data }, { on := 27, ground := Ground.chain }, { on := 25, ground := Ground.guard }], guard := some (25, false) }) rfl (fun K hK => ?_) AllReadyH.nil
            go_simp
            refine (s3.out _).mono ?_; rintro e w2 ⟨rfl, hb2⟩
            go_wp2_with fail
            refine hK.out _ _ ?_ (fun hHeld => ?_)
            · (try dsimp only)
              ((try dsimp only at *); go_split_ands; refine ⟨?_, ?_, ?_, ?_, ?_, ?_, ?_, ?_⟩ <;> (first | with_reducible assumption | with_reducible exact keep_b hb2 (by with_reducible assumption) | exact heap_b hb2 (by with_reducible assumption) | with_reducible exact below_s (by with_reducible assumption) hb2))
            clear hK
            try simp only [Act.put, List.setIfInBounds_toArray, List.set_cons_zero, List.set_cons_succ]
            refine wpAnyH_take (i := 33) (oi := { dst := some 105, op := Op.unOp UnOp.not 4 (Operand.tmp 104), type := 4, pos := "law.go:97", after := #[{ on := 32, ground := Ground.data }, { on := 25, ground := Ground.guard }], guard := some (25, false) }) (v := ?_) rfl (by kernel_rfl) (by kernel_rfl) (by kernel_rfl) (fun _ _ _ h => h) (Or.inl ⟨rfl, ?_⟩) (by assumption) ?_
            rotate_left
            · (intro w hSw; (try dsimp only at hSw); first | (go_simp; done) | (go_simp; with_reducible rfl))
            try simp only [Act.put, List.setIfInBounds_toArray, List.set_cons_zero, List.set_cons_succ]
            refine wpAnyH_take (i := 34) (oi := { dst := some 106, op := Op.pick (Operand.tmp 97) (Operand.const (Value.bool true)) (Operand.tmp 105), type := 4, pos := "law.go:97", after := #[{ on := 25, ground := Ground.data }, { on := 33, ground := Ground.data }], guard := none }) (v := ?_) rfl (by kernel_rfl) (by kernel_rfl) (by kernel_rfl) (fun _ _ _ h => h) (Or.inl ⟨rfl, ?_⟩) (by assumption) ?_
            rotate_left
            · (intro w hSw; (try dsimp only at hSw); first | (go_simp; done) | (go_simp; with_reducible rfl))
            try simp only [Act.put, List.setIfInBounds_toArray, List.set_cons_zero, List.set_cons_succ]
            refine wpAnyH_done (by kernel_rfl) ?_ _
            refine NoPanic.normal ?_
            have hHl := hHeld.2.2.2.2.2.2.2
            have hQf := hHeld.1
            go_wp2_with fail
            go_round
            case rel => exact ⟨j + 1, q', qb, by omega, rfl, by go_num, hw6.out, hQf, hR6.below hHl, hne, hlq, below_s hB6 hHl⟩
            case measure => simp [intOf]; omega
          · have hkk : K1 < 1 ∨ (¬ K1 < 1 ∧ 5 < K1) := by omega
            clear hk
            rcases hkk with hkk | hkk
            · go_split_ands
              have rs := Lib.hid (fun W (h : Qat W qb q) => reserve_yes qb q b p W hq hb.out h)
              have hq := Lib.hid hq
              go_wp2_with fail
              refine (copy_any qb q _ (hQ.only (bs := fun _ => False) ((Only.refl _ _).alloc _) (fun q => q))).mono ?_; rintro e w' ⟨rfl, hw⟩; obtain rfl := hw.symm; clear hw
              go_wp2_with fail
              refine (rs.out _ (hQ.only (bs := fun _ => False) (((Only.refl _ _).alloc _).alloc _) (fun q => q))).mono ?_; rintro e v3 ⟨rfl, _, ho3⟩
              have hQ3 : Qat v3 (wr.heap.size + 1) q := by
                have h := heap_alloc_new (wr.alloc (.cells #[.int .i64 K1, .int .i64 B1, .int .i64 P1] 23)) (.cells (quoCells q) 54)
                rw [World.size_alloc] at h
                exact Qat.only h ho3 (fun (h : wr.heap.size + 1 = qb) => by omega)
              have hR3 : Rat v3 wb q := (hR.only (bs := fun _ => False) (((Only.refl _ _).alloc _).alloc _) (fun q => q)).only ho3 (fun h => hne h.symm)
              have t0 : v3.cell? ⟨wr.heap.size, 0, none⟩ = some (.int .i64 K1) := ho3.cell (p := ⟨wr.heap.size, 0, none⟩) (keep_alloc (new_cell rfl)) (fun (h : wr.heap.size = qb) => by omega)
              have t1 : v3.cell? ⟨wr.heap.size, 1, none⟩ = some (.int .i64 B1) := ho3.cell (p := ⟨wr.heap.size, 1, none⟩) (keep_alloc (new_cell rfl)) (fun (h : wr.heap.size = qb) => by omega)
              have t2 : v3.cell? ⟨wr.heap.size, 2, none⟩ = some (.int .i64 P1) := ho3.cell (p := ⟨wr.heap.size, 2, none⟩) (keep_alloc (new_cell rfl)) (fun (h : wr.heap.size = qb) => by omega)
              have hB3 : Below w.heap.size w v3 := below_only (below_alloc (by have := hB.size; simp; omega) (below_alloc hB.size hB)) ho3 hlq
              have hsz3 := hB.size
              clear hQ hR hB x0 x1 x2 rs ho3
              go_wp2_with fail
              refine wp_name (fun W => Qat W (wr.heap.size + 1) q ∧ Rat W wb q ∧ W.cell? ⟨wr.heap.size, 0, none⟩ = some (.int .i64 K1) ∧ W.cell? ⟨wr.heap.size, 1, none⟩ = some (.int .i64 B1) ∧ W.cell? ⟨wr.heap.size, 2, none⟩ = some (.int .i64 P1) ∧ Below w.heap.size w W) ⟨hQ3, hR3, t0, t1, t2, hB3⟩ ?_
              clear hQ3 hR3 t0 t1 t2 hB3
              rintro W ⟨hQ, hR, t0, t1, t2, hB⟩
              replace hne : wr.heap.size + 1 ≠ wb := by omega
              replace hlq : w.heap.size ≤ wr.heap.size + 1 := by omega
              refine wp_region_noPanic ?_
              refine wp_region_any (by kernel_rfl) ?_
              change wpAny _ _ _ _ _ _ _ (World.drew _)
              refine wpAny_take (i := 0) (oi := { dst := some 72, op := Op.move (Operand.tmp 10), type := 30, pos := "law.go:97", after := #[], guard := none }) (v := ?_) rfl (by kernel_rfl) (by kernel_rfl) (by kernel_rfl) (fun _ _ _ h => h) (Or.inl ⟨rfl, ?_⟩) ?_
              rotate_left
              · (intro w; first | (go_simp; done) | (go_simp; with_reducible rfl))
              try simp only [Act.put, List.setIfInBounds_toArray, List.set_cons_zero, List.set_cons_succ]
              refine wpAny_take (i := 1) (oi := { dst := some 73, op := Op.move (Operand.tmp 12), type := 44, pos := "law.go:97", after := #[], guard := none }) (v := ?_) rfl (by kernel_rfl) (by kernel_rfl) (by kernel_rfl) (fun _ _ _ h => h) (Or.inl ⟨rfl, ?_⟩) ?_
              rotate_left
              · (intro w; first | (go_simp; done) | (go_simp; with_reducible rfl))
              try simp only [Act.put, List.setIfInBounds_toArray, List.set_cons_zero, List.set_cons_succ]
              refine wpAny_ready (rs := [2]) (by kernel_rfl) (by simp) ?_
              refine AllReady.cons (o := { dst := some 74, op := Op.load 23 (Operand.tmp 14), type := 23, pos := "law.go:97", after := #[], guard := none }) rfl (fun K hK0 => ?_) AllReady.nil
              have hK := Lib.hid hK0
              clear hK0
              go_simp
              refine hK.out _ _ ?_
              clear hK
              try simp only [Act.put, List.setIfInBounds_toArray, List.set_cons_zero, List.set_cons_succ]
              refine wpAny_ready (rs := [3]) (by kernel_rfl) (by simp) ?_
              refine AllReady.cons (o := { dst := some 75, op := Op.call { callee := Callee.value (Operand.func 20), args := #[Operand.tmp 72, Operand.tmp 73, Operand.tmp 74], argTypes := #[30, 44, 23] }, type := 4, pos := "law.go:97", after := #[{ on := 0, ground := Ground.data }, { on := 1, ground := Ground.data }, { on := 2, ground := Ground.data }], guard := none }) rfl (fun K hK0 => ?_) AllReady.nil
              have hK := Lib.hid hK0
              clear hK0
              go_simp
              refine (done_any (wr.heap.size + 1) wb q q K1 B1 P1 _ (show Qat W.drew (wr.heap.size + 1) q from hQ) (show Rat W.drew wb q from hR) hq.out hq.out hne).mono ?_
              rintro e w6 ⟨x, rfl, hx, hQ6, hR6, ho6⟩
              obtain rfl := hx rfl
              go_wp2_with fail
              refine hK.out _ _ ?_
              clear hK
              try simp only [Act.put, List.setIfInBounds_toArray, List.set_cons_zero, List.set_cons_succ]
              have hw6 : (q.next K1 B1 P1).wf := QS.next_wf hq.out K1 B1 P1
              have hB6 : Below w.heap.size w w6 := hB.drew.trans (ho6.below (by have := hB.size; exact this) (fun k hk he => by omega))
              clear hQ hR hx ho6 t0 t1 t2
              generalize q.next K1 B1 P1 = q' at hQ6 hR6 hw6
              obtain ⟨k1, k2, k3, _⟩ := QS.ok hw6
              have s1 := Lib.hid (fun w => same_yes q'.lB q'.lP w k1)
              have s2 := Lib.hid (fun w => same_yes q'.cB q'.cP w k2)
              have s3 := Lib.hid (fun w => same_yes q'.rB q'.rP w k3)
              clear k1 k2 k3
              replace hw6 := Lib.hid hw6
              have hHeld : (fun W => W.heap[(wr.heap.size + 1)]? = some (.cells (quoCells q') 54 (0, 0)) ∧ W.cell? ⟨wb, 0, none⟩ = some (.int .i64 q'.lB) ∧ W.cell? ⟨wb, 1, none⟩ = some (.int .i64 q'.lP) ∧ W.cell? ⟨wb, 2, none⟩ = some (.int .i64 q'.cB) ∧ W.cell? ⟨wb, 3, none⟩ = some (.int .i64 q'.cP) ∧ W.cell? ⟨wb, 4, none⟩ = some (.int .i64 q'.rB) ∧ W.cell? ⟨wb, 5, none⟩ = some (.int .i64 q'.rP) ∧ Below w6.heap.size w6 W) w6 := ⟨hQ6, hR6.cells.1.1, hR6.cells.1.2.1, hR6.cells.1.2.2.1, hR6.cells.1.2.2.2.1, hR6.cells.1.2.2.2.2.1, hR6.cells.1.2.2.2.2.2, Below.refl _ _⟩
              refine wpAny_of_held (S := (fun W => W.heap[(wr.heap.size + 1)]? = some (.cells (quoCells q') 54 (0, 0)) ∧ W.cell? ⟨wb, 0, none⟩ = some (.int .i64 q'.lB) ∧ W.cell? ⟨wb, 1, none⟩ = some (.int .i64 q'.lP) ∧ W.cell? ⟨wb, 2, none⟩ = some (.int .i64 q'.cB) ∧ W.cell? ⟨wb, 3, none⟩ = some (.int .i64 q'.cP) ∧ W.cell? ⟨wb, 4, none⟩ = some (.int .i64 q'.rB) ∧ W.cell? ⟨wb, 5, none⟩ = some (.int .i64 q'.rP) ∧ Below w6.heap.size w6 W)) _ _ _ _ ?_
              refine wpAnyH_take (i := 4) (oi := { dst := some 76, op := Op.unOp UnOp.not 4 (Operand.tmp 75), type := 4, pos := "law.go:97", after := #[{ on := 3, ground := Ground.data }], guard := none }) (v := ?_) rfl (by kernel_rfl) (by kernel_rfl) (by kernel_rfl) (fun _ _ _ h => h) (Or.inl ⟨rfl, ?_⟩) (by assumption) ?_
              rotate_left
              · (intro w hSw; (try dsimp only at hSw); first | (go_simp; done) | (go_simp; with_reducible rfl))
              try simp only [Act.put, List.setIfInBounds_toArray, List.set_cons_zero, List.set_cons_succ]
              refine wpAnyH_take (i := 5) (oi := { dst := some 77, op := Op.move (Operand.tmp 76), type := 4, pos := "law.go:97", after := #[{ on := 4, ground := Ground.data }, { on := 3, ground := Ground.chain }], guard := none }) (v := ?_) rfl (by kernel_rfl) (by kernel_rfl) (by kernel_rfl) (fun _ _ _ h => h) (Or.inl ⟨rfl, ?_⟩) (by assumption) ?_
              rotate_left
              · (intro w hSw; (try dsimp only at hSw); first | (go_simp; done) | (go_simp; with_reducible rfl))
              try simp only [Act.put, List.setIfInBounds_toArray, List.set_cons_zero, List.set_cons_succ]
              refine wpAnyH_take (i := 6) (oi := { dst := some 78, op := Op.move (Operand.tmp 10), type := 30, pos := "law.go:97", after := #[{ on := 5, ground := Ground.guard }], guard := some (5, false) }) (v := ?_) rfl (by kernel_rfl) (by kernel_rfl) (by kernel_rfl) (fun _ _ _ h => h) (Or.inl ⟨rfl, ?_⟩) (by assumption) ?_
              rotate_left
              · (intro w hSw; (try dsimp only at hSw); first | (go_simp; done) | (go_simp; with_reducible rfl))
              try simp only [Act.put, List.setIfInBounds_toArray, List.set_cons_zero, List.set_cons_succ]
              refine wpAnyH_take (i := 8) (oi := { dst := some 80, op := Op.move (Operand.tmp 12), type := 44, pos := "law.go:97", after := #[{ on := 5, ground := Ground.guard }], guard := some (5, false) }) (v := ?_) rfl (by kernel_rfl) (by kernel_rfl) (by kernel_rfl) (fun _ _ _ h => h) (Or.inl ⟨rfl, ?_⟩) (by assumption) ?_
              rotate_left
              · (intro w hSw; (try dsimp only at hSw); first | (go_simp; done) | (go_simp; with_reducible rfl))
              try simp only [Act.put, List.setIfInBounds_toArray, List.set_cons_zero, List.set_cons_succ]
              refine wpAnyH_take (i := 9) (oi := { dst := some 81, op := Op.nilCheck (Operand.tmp 80), type := 0, pos := "law.go:97", after := #[{ on := 8, ground := Ground.data }, { on := 5, ground := Ground.guard }], guard := some (5, false) }) (v := ?_) rfl (by kernel_rfl) (by kernel_rfl) (by kernel_rfl) (fun _ _ _ h => h) (Or.inl ⟨rfl, ?_⟩) (by assumption) ?_
              rotate_left
              · (intro w hSw; (try dsimp only at hSw); first | (go_simp; done) | (go_simp; with_reducible rfl))
              try simp only [Act.put, List.setIfInBounds_toArray, List.set_cons_zero, List.set_cons_succ]
              refine wpAnyH_take (i := 10) (oi := { dst := some 82, op := Op.fieldAddr 46 (Operand.tmp 81) 0, type := 0, pos := "law.go:97", after := #[{ on := 9, ground := Ground.data }, { on := 5, ground := Ground.guard }], guard := some (5, false) }) (v := ?_) rfl (by kernel_rfl) (by kernel_rfl) (by kernel_rfl) (fun _ _ _ h => h) (Or.inl ⟨rfl, ?_⟩) (by assumption) ?_
              rotate_left
              · (intro w hSw; (try dsimp only at hSw); first | (go_simp; done) | (go_simp; with_reducible rfl))
              try simp only [Act.put, List.setIfInBounds_toArray, List.set_cons_zero, List.set_cons_succ]
              refine wpAnyH_take (i := 11) (oi := { dst := some 83, op := Op.load 27 (Operand.tmp 82), type := 27, pos := "law.go:97", after := #[{ on := 10, ground := Ground.data }, { on := 5, ground := Ground.guard }], guard := some (5, false) }) (v := ?_) rfl (by kernel_rfl) (by kernel_rfl) (by kernel_rfl) (fun _ _ _ h => h) (Or.inl ⟨rfl, ?_⟩) (by assumption) ?_
              rotate_left
              · (intro w hSw; (try dsimp only at hSw); first | (go_simp; done) | (go_simp; with_reducible rfl))
              try simp only [Act.put, List.setIfInBounds_toArray, List.set_cons_zero, List.set_cons_succ]
              refine wpAnyH_ready (rs := [7]) (by kernel_rfl) (by simp) ?_
              refine AllReadyH.cons (o := { dst := some 79, op := Op.call { callee := Callee.value (Operand.func 19), args := #[Operand.tmp 78], argTypes := #[30] }, type := 25, pos := "law.go:97", after := #[{ on := 6, ground := Ground.data }, { on := 5, ground := Ground.chain }, { on := 5, ground := Ground.guard }], guard := some (5, false) }) rfl (fun K hK => ?_) AllReadyH.nil
              go_simp
              refine (limit_any (wr.heap.size + 1) q' _ hHeld.1).mono ?_; rintro e w' ⟨rfl, hw⟩; obtain rfl := hw.symm; clear hw
              go_wp2_with fail
              refine hK.out _ _ ?_ (fun hHeld => ?_)
              · (try dsimp only)
                ((try dsimp only at *); go_split_ands; refine ⟨?_, ?_, ?_, ?_, ?_, ?_, ?_, ?_⟩ <;> (first | with_reducible assumption | with_reducible exact keep_b hb2 (by with_reducible assumption) | exact heap_b hb2 (by with_reducible assumption) | with_reducible exact below_s (by with_reducible assumption) hb2))
              clear hK
              try simp only [Act.put, List.setIfInBounds_toArray, List.set_cons_zero, List.set_cons_succ]
              refine wpAnyH_ready (rs := [12]) (by kernel_rfl) (by simp) ?_
              refine AllReadyH.cons (o := { dst := some 84, op := Op.call { callee := Callee.value (Operand.func 22), args := #[Operand.tmp 79, Operand.tmp 83], argTypes := #[25, 27] }, type := 4, pos := "law.go:97", after := #[{ on := 7, ground := Ground.data }, { on := 11, ground := Ground.data }, { on := 7, ground := Ground.chain }, { on := 5, ground := Ground.guard }], guard := some (5, false) }) rfl (fun K hK => ?_) AllReadyH.nil
              go_simp
              refine (s1.out _).mono ?_; rintro e w2 ⟨rfl, hb2⟩
              go_wp2_with fail
              refine hK.out _ _ ?_ (fun hHeld => ?_)
              · (try dsimp only)
                ((try dsimp only at *); go_split_ands; refine ⟨?_, ?_, ?_, ?_, ?_, ?_, ?_, ?_⟩ <;> (first | with_reducible assumption | with_reducible exact keep_b hb2 (by with_reducible assumption) | exact heap_b hb2 (by with_reducible assumption) | with_reducible exact below_s (by with_reducible assumption) hb2))
              clear hK
              try simp only [Act.put, List.setIfInBounds_toArray, List.set_cons_zero, List.set_cons_succ]
              refine wpAnyH_take (i := 13) (oi := { dst := some 85, op := Op.unOp UnOp.not 4 (Operand.tmp 84), type := 4, pos := "law.go:97", after := #[{ on := 12, ground := Ground.data }, { on := 5, ground := Ground.guard }], guard := some (5, false) }) (v := ?_) rfl (by kernel_rfl) (by kernel_rfl) (by kernel_rfl) (fun _ _ _ h => h) (Or.inl ⟨rfl, ?_⟩) (by assumption) ?_
              rotate_left
              · (intro w hSw; (try dsimp only at hSw); first | (go_simp; done) | (go_simp; with_reducible rfl))
              try simp only [Act.put, List.setIfInBounds_toArray, List.set_cons_zero, List.set_cons_succ]
              refine wpAnyH_take (i := 14) (oi := { dst := some 86, op := Op.pick (Operand.tmp 77) (Operand.const (Value.bool true)) (Operand.tmp 85), type := 4, pos := "law.go:97", after := #[{ on := 5, ground := Ground.data }, { on := 13, ground := Ground.data }], guard := none }) (v := ?_) rfl (by kernel_rfl) (by kernel_rfl) (by kernel_rfl) (fun _ _ _ h => h) (Or.inl ⟨rfl, ?_⟩) (by assumption) ?_
              rotate_left
              · (intro w hSw; (try dsimp only at hSw); first | (go_simp; done) | (go_simp; with_reducible rfl))
              try simp only [Act.put, List.setIfInBounds_toArray, List.set_cons_zero, List.set_cons_succ]
              refine wpAnyH_take (i := 15) (oi := { dst := some 87, op := Op.move (Operand.tmp 86), type := 4, pos := "law.go:97", after := #[{ on := 14, ground := Ground.data }, { on := 12, ground := Ground.chain }], guard := none }) (v := ?_) rfl (by kernel_rfl) (by kernel_rfl) (by kernel_rfl) (fun _ _ _ h => h) (Or.inl ⟨rfl, ?_⟩) (by assumption) ?_
              rotate_left
              · (intro w hSw; (try dsimp only at hSw); first | (go_simp; done) | (go_simp; with_reducible rfl))
              try simp only [Act.put, List.setIfInBounds_toArray, List.set_cons_zero, List.set_cons_succ]
              refine wpAnyH_take (i := 16) (oi := { dst := some 88, op := Op.move (Operand.tmp 10), type := 30, pos := "law.go:97", after := #[{ on := 15, ground := Ground.guard }], guard := some (15, false) }) (v := ?_) rfl (by kernel_rfl) (by kernel_rfl) (by kernel_rfl) (fun _ _ _ h => h) (Or.inl ⟨rfl, ?_⟩) (by assumption) ?_
              rotate_left
              · (intro w hSw; (try dsimp only at hSw); first | (go_simp; done) | (go_simp; with_reducible rfl))
              try simp only [Act.put, List.setIfInBounds_toArray, List.set_cons_zero, List.set_cons_succ]
              refine wpAnyH_take (i := 18) (oi := { dst := some 90, op := Op.move (Operand.tmp 12), type := 44, pos := "law.go:97", after := #[{ on := 15, ground := Ground.guard }], guard := some (15, false) }) (v := ?_) rfl (by kernel_rfl) (by kernel_rfl) (by kernel_rfl) (fun _ _ _ h => h) (Or.inl ⟨rfl, ?_⟩) (by assumption) ?_
              rotate_left
              · (intro w hSw; (try dsimp only at hSw); first | (go_simp; done) | (go_simp; with_reducible rfl))
              try simp only [Act.put, List.setIfInBounds_toArray, List.set_cons_zero, List.set_cons_succ]
              refine wpAnyH_take (i := 19) (oi := { dst := some 91, op := Op.nilCheck (Operand.tmp 90), type := 0, pos := "law.go:97", after := #[{ on := 18, ground := Ground.data }, { on := 15, ground := Ground.guard }], guard := some (15, false) }) (v := ?_) rfl (by kernel_rfl) (by kernel_rfl) (by kernel_rfl) (fun _ _ _ h => h) (Or.inl ⟨rfl, ?_⟩) (by assumption) ?_
              rotate_left
              · (intro w hSw; (try dsimp only at hSw); first | (go_simp; done) | (go_simp; with_reducible rfl))
              try simp only [Act.put, List.setIfInBounds_toArray, List.set_cons_zero, List.set_cons_succ]
              refine wpAnyH_take (i := 20) (oi := { dst := some 92, op := Op.fieldAddr 46 (Operand.tmp 91) 1, type := 0, pos := "law.go:97", after := #[{ on := 19, ground := Ground.data }, { on := 15, ground := Ground.guard }], guard := some (15, false) }) (v := ?_) rfl (by kernel_rfl) (by kernel_rfl) (by kernel_rfl) (fun _ _ _ h => h) (Or.inl ⟨rfl, ?_⟩) (by assumption) ?_
              rotate_left
              · (intro w hSw; (try dsimp only at hSw); first | (go_simp; done) | (go_simp; with_reducible rfl))
              try simp only [Act.put, List.setIfInBounds_toArray, List.set_cons_zero, List.set_cons_succ]
              refine wpAnyH_take (i := 21) (oi := { dst := some 93, op := Op.load 27 (Operand.tmp 92), type := 27, pos := "law.go:97", after := #[{ on := 20, ground := Ground.data }, { on := 15, ground := Ground.guard }], guard := some (15, false) }) (v := ?_) rfl (by kernel_rfl) (by kernel_rfl) (by kernel_rfl) (fun _ _ _ h => h) (Or.inl ⟨rfl, ?_⟩) (by assumption) ?_
              rotate_left
              · (intro w hSw; (try dsimp only at hSw); first | (go_simp; done) | (go_simp; with_reducible rfl))
              try simp only [Act.put, List.setIfInBounds_toArray, List.set_cons_zero, List.set_cons_succ]
              refine wpAnyH_ready (rs := [17]) (by kernel_rfl) (by simp) ?_
              refine AllReadyH.cons (o := { dst := some 89, op := Op.call { callee := Callee.value (Operand.func 12), args := #[Operand.tmp 88], argTypes := #[30] }, type := 25, pos := "law.go:97", after := #[{ on := 16, ground := Ground.data }, { on := 15, ground := Ground.chain }, { on := 15, ground := Ground.guard }], guard := some (15, false) }) rfl (fun K hK => ?_) AllReadyH.nil
              go_simp
              refine (charged_any (wr.heap.size + 1) q' _ hHeld.1).mono ?_; rintro e w' ⟨rfl, hw⟩; obtain rfl := hw.symm; clear hw
              go_wp2_with fail
              refine hK.out _ _ ?_ (fun hHeld => ?_)
              · (try dsimp only)
                ((try dsimp only at *); go_split_ands; refine ⟨?_, ?_, ?_, ?_, ?_, ?_, ?_, ?_⟩ <;> (first | with_reducible assumption | with_reducible exact keep_b hb2 (by with_reducible assumption) | exact heap_b hb2 (by with_reducible assumption) | with_reducible exact below_s (by with_reducible assumption) hb2))
              clear hK
              try simp only [Act.put, List.setIfInBounds_toArray, List.set_cons_zero, List.set_cons_succ]
              refine wpAnyH_ready (rs := [22]) (by kernel_rfl) (by simp) ?_
              refine AllReadyH.cons (o := { dst := some 94, op := Op.call { callee := Callee.value (Operand.func 22), args := #[Operand.tmp 89, Operand.tmp 93], argTypes := #[25, 27] }, type := 4, pos := "law.go:97", after := #[{ on := 17, ground := Ground.data }, { on := 21, ground := Ground.data }, { on := 17, ground := Ground.chain }, { on := 15, ground := Ground.guard }], guard := some (15, false) }) rfl (fun K hK => ?_) AllReadyH.nil
              go_simp
              refine (s2.out _).mono ?_; rintro e w2 ⟨rfl, hb2⟩
              go_wp2_with fail
              refine hK.out _ _ ?_ (fun hHeld => ?_)
              · (try dsimp only)
                ((try dsimp only at *); go_split_ands; refine ⟨?_, ?_, ?_, ?_, ?_, ?_, ?_, ?_⟩ <;> (first | with_reducible assumption | with_reducible exact keep_b hb2 (by with_reducible assumption) | exact heap_b hb2 (by with_reducible assumption) | with_reducible exact below_s (by with_reducible assumption) hb2))
              clear hK
              try simp only [Act.put, List.setIfInBounds_toArray, List.set_cons_zero, List.set_cons_succ]
              refine wpAnyH_take (i := 23) (oi := { dst := some 95, op := Op.unOp UnOp.not 4 (Operand.tmp 94), type := 4, pos := "law.go:97", after := #[{ on := 22, ground := Ground.data }, { on := 15, ground := Ground.guard }], guard := some (15, false) }) (v := ?_) rfl (by kernel_rfl) (by kernel_rfl) (by kernel_rfl) (fun _ _ _ h => h) (Or.inl ⟨rfl, ?_⟩) (by assumption) ?_
              rotate_left
              · (intro w hSw; (try dsimp only at hSw); first | (go_simp; done) | (go_simp; with_reducible rfl))
              try simp only [Act.put, List.setIfInBounds_toArray, List.set_cons_zero, List.set_cons_succ]
              refine wpAnyH_take (i := 24) (oi := { dst := some 96, op := Op.pick (Operand.tmp 87) (Operand.const (Value.bool true)) (Operand.tmp 95), type := 4, pos := "law.go:97", after := #[{ on := 15, ground := Ground.data }, { on := 23, ground := Ground.data }], guard := none }) (v := ?_) rfl (by kernel_rfl) (by kernel_rfl) (by kernel_rfl) (fun _ _ _ h => h) (Or.inl ⟨rfl, ?_⟩) (by assumption) ?_
              rotate_left
              · (intro w hSw; (try dsimp only at hSw); first | (go_simp; done) | (go_simp; with_reducible rfl))
              try simp only [Act.put, List.setIfInBounds_toArray, List.set_cons_zero, List.set_cons_succ]
              refine wpAnyH_take (i := 25) (oi := { dst := some 97, op := Op.move (Operand.tmp 96), type := 4, pos := "law.go:97", after := #[{ on := 24, ground := Ground.data }, { on := 22, ground := Ground.chain }], guard := none }) (v := ?_) rfl (by kernel_rfl) (by kernel_rfl) (by kernel_rfl) (fun _ _ _ h => h) (Or.inl ⟨rfl, ?_⟩) (by assumption) ?_
              rotate_left
              · (intro w hSw; (try dsimp only at hSw); first | (go_simp; done) | (go_simp; with_reducible rfl))
              try simp only [Act.put, List.setIfInBounds_toArray, List.set_cons_zero, List.set_cons_succ]
              refine wpAnyH_take (i := 26) (oi := { dst := some 98, op := Op.move (Operand.tmp 10), type := 30, pos := "law.go:97", after := #[{ on := 25, ground := Ground.guard }], guard := some (25, false) }) (v := ?_) rfl (by kernel_rfl) (by kernel_rfl) (by kernel_rfl) (fun _ _ _ h => h) (Or.inl ⟨rfl, ?_⟩) (by assumption) ?_
              rotate_left
              · (intro w hSw; (try dsimp only at hSw); first | (go_simp; done) | (go_simp; with_reducible rfl))
              try simp only [Act.put, List.setIfInBounds_toArray, List.set_cons_zero, List.set_cons_succ]
              refine wpAnyH_take (i := 28) (oi := { dst := some 100, op := Op.move (Operand.tmp 12), type := 44, pos := "law.go:97", after := #[{ on := 25, ground := Ground.guard }], guard := some (25, false) }) (v := ?_) rfl (by kernel_rfl) (by kernel_rfl) (by kernel_rfl) (fun _ _ _ h => h) (Or.inl ⟨rfl, ?_⟩) (by assumption) ?_
              rotate_left
              · (intro w hSw; (try dsimp only at hSw); first | (go_simp; done) | (go_simp; with_reducible rfl))
              try simp only [Act.put, List.setIfInBounds_toArray, List.set_cons_zero, List.set_cons_succ]
              refine wpAnyH_take (i := 29) (oi := { dst := some 101, op := Op.nilCheck (Operand.tmp 100), type := 0, pos := "law.go:97", after := #[{ on := 28, ground := Ground.data }, { on := 25, ground := Ground.guard }], guard := some (25, false) }) (v := ?_) rfl (by kernel_rfl) (by kernel_rfl) (by kernel_rfl) (fun _ _ _ h => h) (Or.inl ⟨rfl, ?_⟩) (by assumption) ?_
              rotate_left
              · (intro w hSw; (try dsimp only at hSw); first | (go_simp; done) | (go_simp; with_reducible rfl))
              try simp only [Act.put, List.setIfInBounds_toArray, List.set_cons_zero, List.set_cons_succ]
              refine wpAnyH_take (i := 30) (oi := { dst := some 102, op := Op.fieldAddr 46 (Operand.tmp 101) 2, type := 0, pos := "law.go:97", after := #[{ on := 29, ground := Ground.data }, { on := 25, ground := Ground.guard }], guard := some (25, false) }) (v := ?_) rfl (by kernel_rfl) (by kernel_rfl) (by kernel_rfl) (fun _ _ _ h => h) (Or.inl ⟨rfl, ?_⟩) (by assumption) ?_
              rotate_left
              · (intro w hSw; (try dsimp only at hSw); first | (go_simp; done) | (go_simp; with_reducible rfl))
              try simp only [Act.put, List.setIfInBounds_toArray, List.set_cons_zero, List.set_cons_succ]
              refine wpAnyH_take (i := 31) (oi := { dst := some 103, op := Op.load 27 (Operand.tmp 102), type := 27, pos := "law.go:97", after := #[{ on := 30, ground := Ground.data }, { on := 25, ground := Ground.guard }], guard := some (25, false) }) (v := ?_) rfl (by kernel_rfl) (by kernel_rfl) (by kernel_rfl) (fun _ _ _ h => h) (Or.inl ⟨rfl, ?_⟩) (by assumption) ?_
              rotate_left
              · (intro w hSw; (try dsimp only at hSw); first | (go_simp; done) | (go_simp; with_reducible rfl))
              try simp only [Act.put, List.setIfInBounds_toArray, List.set_cons_zero, List.set_cons_succ]
              refine wpAnyH_ready (rs := [27]) (by kernel_rfl) (by simp) ?_
              refine AllReadyH.cons (o := { dst := some 99, op := Op.call { callee := Callee.value (Operand.func 13), args := #[Operand.tmp 98], argTypes := #[30] }, type := 25, pos := "law.go:97", after := #[{ on := 26, ground := Ground.data }, { on := 25, ground := Ground.chain }, { on := 25, ground := Ground.guard }], guard := some (25, false) }) rfl (fun K hK => ?_) AllReadyH.nil
              go_simp
              refine (reserved_any (wr.heap.size + 1) q' _ hHeld.1).mono ?_; rintro e w' ⟨rfl, hw⟩; obtain rfl := hw.symm; clear hw
              go_wp2_with fail
              refine hK.out _ _ ?_ (fun hHeld => ?_)
              · (try dsimp only)
                ((try dsimp only at *); go_split_ands; refine ⟨?_, ?_, ?_, ?_, ?_, ?_, ?_, ?_⟩ <;> (first | with_reducible assumption | with_reducible exact keep_b hb2 (by with_reducible assumption) | exact heap_b hb2 (by with_reducible assumption) | with_reducible exact below_s (by with_reducible assumption) hb2))
              clear hK
              try simp only [Act.put, List.setIfInBounds_toArray, List.set_cons_zero, List.set_cons_succ]
              refine wpAnyH_ready (rs := [32]) (by kernel_rfl) (by simp) ?_
              refine AllReadyH.cons (o := { dst := some 104, op := Op.call { callee := Callee.value (Operand.func 22), args := #[Operand.tmp 99, Operand.tmp 103], argTypes := #[25, 27] }, type := 4, pos := "law.go:97", after := #[{ on := 27, ground := Ground.data }, { on := 31, ground := Ground.data }, { on := 27, ground := Ground.chain }, { on := 25, ground := Ground.guard }], guard := some (25, false) }) rfl (fun K hK => ?_) AllReadyH.nil
              go_simp
              refine (s3.out _).mono ?_; rintro e w2 ⟨rfl, hb2⟩
              go_wp2_with fail
              refine hK.out _ _ ?_ (fun hHeld => ?_)
              · (try dsimp only)
                ((try dsimp only at *); go_split_ands; refine ⟨?_, ?_, ?_, ?_, ?_, ?_, ?_, ?_⟩ <;> (first | with_reducible assumption | with_reducible exact keep_b hb2 (by with_reducible assumption) | exact heap_b hb2 (by with_reducible assumption) | with_reducible exact below_s (by with_reducible assumption) hb2))
              clear hK
              try simp only [Act.put, List.setIfInBounds_toArray, List.set_cons_zero, List.set_cons_succ]
              refine wpAnyH_take (i := 33) (oi := { dst := some 105, op := Op.unOp UnOp.not 4 (Operand.tmp 104), type := 4, pos := "law.go:97", after := #[{ on := 32, ground := Ground.data }, { on := 25, ground := Ground.guard }], guard := some (25, false) }) (v := ?_) rfl (by kernel_rfl) (by kernel_rfl) (by kernel_rfl) (fun _ _ _ h => h) (Or.inl ⟨rfl, ?_⟩) (by assumption) ?_
              rotate_left
              · (intro w hSw; (try dsimp only at hSw); first | (go_simp; done) | (go_simp; with_reducible rfl))
              try simp only [Act.put, List.setIfInBounds_toArray, List.set_cons_zero, List.set_cons_succ]
              refine wpAnyH_take (i := 34) (oi := { dst := some 106, op := Op.pick (Operand.tmp 97) (Operand.const (Value.bool true)) (Operand.tmp 105), type := 4, pos := "law.go:97", after := #[{ on := 25, ground := Ground.data }, { on := 33, ground := Ground.data }], guard := none }) (v := ?_) rfl (by kernel_rfl) (by kernel_rfl) (by kernel_rfl) (fun _ _ _ h => h) (Or.inl ⟨rfl, ?_⟩) (by assumption) ?_
              rotate_left
              · (intro w hSw; (try dsimp only at hSw); first | (go_simp; done) | (go_simp; with_reducible rfl))
              try simp only [Act.put, List.setIfInBounds_toArray, List.set_cons_zero, List.set_cons_succ]
              refine wpAnyH_done (by kernel_rfl) ?_ _
              refine NoPanic.normal ?_
              have hHl := hHeld.2.2.2.2.2.2.2
              have hQf := hHeld.1
              go_wp2_with fail
              go_round
              case rel => exact ⟨j + 1, q', (wr.heap.size + 1), by omega, rfl, by go_num, hw6.out, hQf, hR6.below hHl, hne, hlq, below_s hB6 hHl⟩
              case measure => simp [intOf]; omega
            · go_split_ands
              have rs := Lib.hid (fun W (h : Qat W qb q) => reserve_yes qb q b p W hq hb.out h)
              have hq := Lib.hid hq
              go_wp2_with fail
              refine (copy_any qb q _ (hQ.only (bs := fun _ => False) ((Only.refl _ _).alloc _) (fun q => q))).mono ?_; rintro e w' ⟨rfl, hw⟩; obtain rfl := hw.symm; clear hw
              go_wp2_with fail
              refine (rs.out _ (hQ.only (bs := fun _ => False) (((Only.refl _ _).alloc _).alloc _) (fun q => q))).mono ?_; rintro e v3 ⟨rfl, _, ho3⟩
              have hQ3 : Qat v3 (wr.heap.size + 1) q := by
                have h := heap_alloc_new (wr.alloc (.cells #[.int .i64 K1, .int .i64 B1, .int .i64 P1] 23)) (.cells (quoCells q) 54)
                rw [World.size_alloc] at h
                exact Qat.only h ho3 (fun (h : wr.heap.size + 1 = qb) => by omega)
              have hR3 : Rat v3 wb q := (hR.only (bs := fun _ => False) (((Only.refl _ _).alloc _).alloc _) (fun q => q)).only ho3 (fun h => hne h.symm)
              have t0 : v3.cell? ⟨wr.heap.size, 0, none⟩ = some (.int .i64 K1) := ho3.cell (p := ⟨wr.heap.size, 0, none⟩) (keep_alloc (new_cell rfl)) (fun (h : wr.heap.size = qb) => by omega)
              have t1 : v3.cell? ⟨wr.heap.size, 1, none⟩ = some (.int .i64 B1) := ho3.cell (p := ⟨wr.heap.size, 1, none⟩) (keep_alloc (new_cell rfl)) (fun (h : wr.heap.size = qb) => by omega)
              have t2 : v3.cell? ⟨wr.heap.size, 2, none⟩ = some (.int .i64 P1) := ho3.cell (p := ⟨wr.heap.size, 2, none⟩) (keep_alloc (new_cell rfl)) (fun (h : wr.heap.size = qb) => by omega)
              have hB3 : Below w.heap.size w v3 := below_only (below_alloc (by have := hB.size; simp; omega) (below_alloc hB.size hB)) ho3 hlq
              have hsz3 := hB.size
              clear hQ hR hB x0 x1 x2 rs ho3
              go_wp2_with fail
              refine wp_name (fun W => Qat W (wr.heap.size + 1) q ∧ Rat W wb q ∧ W.cell? ⟨wr.heap.size, 0, none⟩ = some (.int .i64 K1) ∧ W.cell? ⟨wr.heap.size, 1, none⟩ = some (.int .i64 B1) ∧ W.cell? ⟨wr.heap.size, 2, none⟩ = some (.int .i64 P1) ∧ Below w.heap.size w W) ⟨hQ3, hR3, t0, t1, t2, hB3⟩ ?_
              clear hQ3 hR3 t0 t1 t2 hB3
              rintro W ⟨hQ, hR, t0, t1, t2, hB⟩
              replace hne : wr.heap.size + 1 ≠ wb := by omega
              replace hlq : w.heap.size ≤ wr.heap.size + 1 := by omega
              refine wp_region_noPanic ?_
              refine wp_region_any (by kernel_rfl) ?_
              change wpAny _ _ _ _ _ _ _ (World.drew _)
              refine wpAny_take (i := 0) (oi := { dst := some 72, op := Op.move (Operand.tmp 10), type := 30, pos := "law.go:97", after := #[], guard := none }) (v := ?_) rfl (by kernel_rfl) (by kernel_rfl) (by kernel_rfl) (fun _ _ _ h => h) (Or.inl ⟨rfl, ?_⟩) ?_
              rotate_left
              · (intro w; first | (go_simp; done) | (go_simp; with_reducible rfl))
              try simp only [Act.put, List.setIfInBounds_toArray, List.set_cons_zero, List.set_cons_succ]
              refine wpAny_take (i := 1) (oi := { dst := some 73, op := Op.move (Operand.tmp 12), type := 44, pos := "law.go:97", after := #[], guard := none }) (v := ?_) rfl (by kernel_rfl) (by kernel_rfl) (by kernel_rfl) (fun _ _ _ h => h) (Or.inl ⟨rfl, ?_⟩) ?_
              rotate_left
              · (intro w; first | (go_simp; done) | (go_simp; with_reducible rfl))
              try simp only [Act.put, List.setIfInBounds_toArray, List.set_cons_zero, List.set_cons_succ]
              refine wpAny_ready (rs := [2]) (by kernel_rfl) (by simp) ?_
              refine AllReady.cons (o := { dst := some 74, op := Op.load 23 (Operand.tmp 14), type := 23, pos := "law.go:97", after := #[], guard := none }) rfl (fun K hK0 => ?_) AllReady.nil
              have hK := Lib.hid hK0
              clear hK0
              go_simp
              refine hK.out _ _ ?_
              clear hK
              try simp only [Act.put, List.setIfInBounds_toArray, List.set_cons_zero, List.set_cons_succ]
              refine wpAny_ready (rs := [3]) (by kernel_rfl) (by simp) ?_
              refine AllReady.cons (o := { dst := some 75, op := Op.call { callee := Callee.value (Operand.func 20), args := #[Operand.tmp 72, Operand.tmp 73, Operand.tmp 74], argTypes := #[30, 44, 23] }, type := 4, pos := "law.go:97", after := #[{ on := 0, ground := Ground.data }, { on := 1, ground := Ground.data }, { on := 2, ground := Ground.data }], guard := none }) rfl (fun K hK0 => ?_) AllReady.nil
              have hK := Lib.hid hK0
              clear hK0
              go_simp
              refine (done_any (wr.heap.size + 1) wb q q K1 B1 P1 _ (show Qat W.drew (wr.heap.size + 1) q from hQ) (show Rat W.drew wb q from hR) hq.out hq.out hne).mono ?_
              rintro e w6 ⟨x, rfl, hx, hQ6, hR6, ho6⟩
              obtain rfl := hx rfl
              go_wp2_with fail
              refine hK.out _ _ ?_
              clear hK
              try simp only [Act.put, List.setIfInBounds_toArray, List.set_cons_zero, List.set_cons_succ]
              have hw6 : (q.next K1 B1 P1).wf := QS.next_wf hq.out K1 B1 P1
              have hB6 : Below w.heap.size w w6 := hB.drew.trans (ho6.below (by have := hB.size; exact this) (fun k hk he => by omega))
              clear hQ hR hx ho6 t0 t1 t2
              generalize q.next K1 B1 P1 = q' at hQ6 hR6 hw6
              obtain ⟨k1, k2, k3, _⟩ := QS.ok hw6
              have s1 := Lib.hid (fun w => same_yes q'.lB q'.lP w k1)
              have s2 := Lib.hid (fun w => same_yes q'.cB q'.cP w k2)
              have s3 := Lib.hid (fun w => same_yes q'.rB q'.rP w k3)
              clear k1 k2 k3
              replace hw6 := Lib.hid hw6
              have hHeld : (fun W => W.heap[(wr.heap.size + 1)]? = some (.cells (quoCells q') 54 (0, 0)) ∧ W.cell? ⟨wb, 0, none⟩ = some (.int .i64 q'.lB) ∧ W.cell? ⟨wb, 1, none⟩ = some (.int .i64 q'.lP) ∧ W.cell? ⟨wb, 2, none⟩ = some (.int .i64 q'.cB) ∧ W.cell? ⟨wb, 3, none⟩ = some (.int .i64 q'.cP) ∧ W.cell? ⟨wb, 4, none⟩ = some (.int .i64 q'.rB) ∧ W.cell? ⟨wb, 5, none⟩ = some (.int .i64 q'.rP) ∧ Below w6.heap.size w6 W) w6 := ⟨hQ6, hR6.cells.1.1, hR6.cells.1.2.1, hR6.cells.1.2.2.1, hR6.cells.1.2.2.2.1, hR6.cells.1.2.2.2.2.1, hR6.cells.1.2.2.2.2.2, Below.refl _ _⟩
              refine wpAny_of_held (S := (fun W => W.heap[(wr.heap.size + 1)]? = some (.cells (quoCells q') 54 (0, 0)) ∧ W.cell? ⟨wb, 0, none⟩ = some (.int .i64 q'.lB) ∧ W.cell? ⟨wb, 1, none⟩ = some (.int .i64 q'.lP) ∧ W.cell? ⟨wb, 2, none⟩ = some (.int .i64 q'.cB) ∧ W.cell? ⟨wb, 3, none⟩ = some (.int .i64 q'.cP) ∧ W.cell? ⟨wb, 4, none⟩ = some (.int .i64 q'.rB) ∧ W.cell? ⟨wb, 5, none⟩ = some (.int .i64 q'.rP) ∧ Below w6.heap.size w6 W)) _ _ _ _ ?_
              refine wpAnyH_take (i := 4) (oi := { dst := some 76, op := Op.unOp UnOp.not 4 (Operand.tmp 75), type := 4, pos := "law.go:97", after := #[{ on := 3, ground := Ground.data }], guard := none }) (v := ?_) rfl (by kernel_rfl) (by kernel_rfl) (by kernel_rfl) (fun _ _ _ h => h) (Or.inl ⟨rfl, ?_⟩) (by assumption) ?_
              rotate_left
              · (intro w hSw; (try dsimp only at hSw); first | (go_simp; done) | (go_simp; with_reducible rfl))
              try simp only [Act.put, List.setIfInBounds_toArray, List.set_cons_zero, List.set_cons_succ]
              refine wpAnyH_take (i := 5) (oi := { dst := some 77, op := Op.move (Operand.tmp 76), type := 4, pos := "law.go:97", after := #[{ on := 4, ground := Ground.data }, { on := 3, ground := Ground.chain }], guard := none }) (v := ?_) rfl (by kernel_rfl) (by kernel_rfl) (by kernel_rfl) (fun _ _ _ h => h) (Or.inl ⟨rfl, ?_⟩) (by assumption) ?_
              rotate_left
              · (intro w hSw; (try dsimp only at hSw); first | (go_simp; done) | (go_simp; with_reducible rfl))
              try simp only [Act.put, List.setIfInBounds_toArray, List.set_cons_zero, List.set_cons_succ]
              refine wpAnyH_take (i := 6) (oi := { dst := some 78, op := Op.move (Operand.tmp 10), type := 30, pos := "law.go:97", after := #[{ on := 5, ground := Ground.guard }], guard := some (5, false) }) (v := ?_) rfl (by kernel_rfl) (by kernel_rfl) (by kernel_rfl) (fun _ _ _ h => h) (Or.inl ⟨rfl, ?_⟩) (by assumption) ?_
              rotate_left
              · (intro w hSw; (try dsimp only at hSw); first | (go_simp; done) | (go_simp; with_reducible rfl))
              try simp only [Act.put, List.setIfInBounds_toArray, List.set_cons_zero, List.set_cons_succ]
              refine wpAnyH_take (i := 8) (oi := { dst := some 80, op := Op.move (Operand.tmp 12), type := 44, pos := "law.go:97", after := #[{ on := 5, ground := Ground.guard }], guard := some (5, false) }) (v := ?_) rfl (by kernel_rfl) (by kernel_rfl) (by kernel_rfl) (fun _ _ _ h => h) (Or.inl ⟨rfl, ?_⟩) (by assumption) ?_
              rotate_left
              · (intro w hSw; (try dsimp only at hSw); first | (go_simp; done) | (go_simp; with_reducible rfl))
              try simp only [Act.put, List.setIfInBounds_toArray, List.set_cons_zero, List.set_cons_succ]
              refine wpAnyH_take (i := 9) (oi := { dst := some 81, op := Op.nilCheck (Operand.tmp 80), type := 0, pos := "law.go:97", after := #[{ on := 8, ground := Ground.data }, { on := 5, ground := Ground.guard }], guard := some (5, false) }) (v := ?_) rfl (by kernel_rfl) (by kernel_rfl) (by kernel_rfl) (fun _ _ _ h => h) (Or.inl ⟨rfl, ?_⟩) (by assumption) ?_
              rotate_left
              · (intro w hSw; (try dsimp only at hSw); first | (go_simp; done) | (go_simp; with_reducible rfl))
              try simp only [Act.put, List.setIfInBounds_toArray, List.set_cons_zero, List.set_cons_succ]
              refine wpAnyH_take (i := 10) (oi := { dst := some 82, op := Op.fieldAddr 46 (Operand.tmp 81) 0, type := 0, pos := "law.go:97", after := #[{ on := 9, ground := Ground.data }, { on := 5, ground := Ground.guard }], guard := some (5, false) }) (v := ?_) rfl (by kernel_rfl) (by kernel_rfl) (by kernel_rfl) (fun _ _ _ h => h) (Or.inl ⟨rfl, ?_⟩) (by assumption) ?_
              rotate_left
              · (intro w hSw; (try dsimp only at hSw); first | (go_simp; done) | (go_simp; with_reducible rfl))
              try simp only [Act.put, List.setIfInBounds_toArray, List.set_cons_zero, List.set_cons_succ]
              refine wpAnyH_take (i := 11) (oi := { dst := some 83, op := Op.load 27 (Operand.tmp 82), type := 27, pos := "law.go:97", after := #[{ on := 10, ground := Ground.data }, { on := 5, ground := Ground.guard }], guard := some (5, false) }) (v := ?_) rfl (by kernel_rfl) (by kernel_rfl) (by kernel_rfl) (fun _ _ _ h => h) (Or.inl ⟨rfl, ?_⟩) (by assumption) ?_
              rotate_left
              · (intro w hSw; (try dsimp only at hSw); first | (go_simp; done) | (go_simp; with_reducible rfl))
              try simp only [Act.put, List.setIfInBounds_toArray, List.set_cons_zero, List.set_cons_succ]
              refine wpAnyH_ready (rs := [7]) (by kernel_rfl) (by simp) ?_
              refine AllReadyH.cons (o := { dst := some 79, op := Op.call { callee := Callee.value (Operand.func 19), args := #[Operand.tmp 78], argTypes := #[30] }, type := 25, pos := "law.go:97", after := #[{ on := 6, ground := Ground.data }, { on := 5, ground := Ground.chain }, { on := 5, ground := Ground.guard }], guard := some (5, false) }) rfl (fun K hK => ?_) AllReadyH.nil
              go_simp
              refine (limit_any (wr.heap.size + 1) q' _ hHeld.1).mono ?_; rintro e w' ⟨rfl, hw⟩; obtain rfl := hw.symm; clear hw
              go_wp2_with fail
              refine hK.out _ _ ?_ (fun hHeld => ?_)
              · (try dsimp only)
                ((try dsimp only at *); go_split_ands; refine ⟨?_, ?_, ?_, ?_, ?_, ?_, ?_, ?_⟩ <;> (first | with_reducible assumption | with_reducible exact keep_b hb2 (by with_reducible assumption) | exact heap_b hb2 (by with_reducible assumption) | with_reducible exact below_s (by with_reducible assumption) hb2))
              clear hK
              try simp only [Act.put, List.setIfInBounds_toArray, List.set_cons_zero, List.set_cons_succ]
              refine wpAnyH_ready (rs := [12]) (by kernel_rfl) (by simp) ?_
              refine AllReadyH.cons (o := { dst := some 84, op := Op.call { callee := Callee.value (Operand.func 22), args := #[Operand.tmp 79, Operand.tmp 83], argTypes := #[25, 27] }, type := 4, pos := "law.go:97", after := #[{ on := 7, ground := Ground.data }, { on := 11, ground := Ground.data }, { on := 7, ground := Ground.chain }, { on := 5, ground := Ground.guard }], guard := some (5, false) }) rfl (fun K hK => ?_) AllReadyH.nil
              go_simp
              refine (s1.out _).mono ?_; rintro e w2 ⟨rfl, hb2⟩
              go_wp2_with fail
              refine hK.out _ _ ?_ (fun hHeld => ?_)
              · (try dsimp only)
                ((try dsimp only at *); go_split_ands; refine ⟨?_, ?_, ?_, ?_, ?_, ?_, ?_, ?_⟩ <;> (first | with_reducible assumption | with_reducible exact keep_b hb2 (by with_reducible assumption) | exact heap_b hb2 (by with_reducible assumption) | with_reducible exact below_s (by with_reducible assumption) hb2))
              clear hK
              try simp only [Act.put, List.setIfInBounds_toArray, List.set_cons_zero, List.set_cons_succ]
              refine wpAnyH_take (i := 13) (oi := { dst := some 85, op := Op.unOp UnOp.not 4 (Operand.tmp 84), type := 4, pos := "law.go:97", after := #[{ on := 12, ground := Ground.data }, { on := 5, ground := Ground.guard }], guard := some (5, false) }) (v := ?_) rfl (by kernel_rfl) (by kernel_rfl) (by kernel_rfl) (fun _ _ _ h => h) (Or.inl ⟨rfl, ?_⟩) (by assumption) ?_
              rotate_left
              · (intro w hSw; (try dsimp only at hSw); first | (go_simp; done) | (go_simp; with_reducible rfl))
              try simp only [Act.put, List.setIfInBounds_toArray, List.set_cons_zero, List.set_cons_succ]
              refine wpAnyH_take (i := 14) (oi := { dst := some 86, op := Op.pick (Operand.tmp 77) (Operand.const (Value.bool true)) (Operand.tmp 85), type := 4, pos := "law.go:97", after := #[{ on := 5, ground := Ground.data }, { on := 13, ground := Ground.data }], guard := none }) (v := ?_) rfl (by kernel_rfl) (by kernel_rfl) (by kernel_rfl) (fun _ _ _ h => h) (Or.inl ⟨rfl, ?_⟩) (by assumption) ?_
              rotate_left
              · (intro w hSw; (try dsimp only at hSw); first | (go_simp; done) | (go_simp; with_reducible rfl))
              try simp only [Act.put, List.setIfInBounds_toArray, List.set_cons_zero, List.set_cons_succ]
              refine wpAnyH_take (i := 15) (oi := { dst := some 87, op := Op.move (Operand.tmp 86), type := 4, pos := "law.go:97", after := #[{ on := 14, ground := Ground.data }, { on := 12, ground := Ground.chain }], guard := none }) (v := ?_) rfl (by kernel_rfl) (by kernel_rfl) (by kernel_rfl) (fun _ _ _ h => h) (Or.inl ⟨rfl, ?_⟩) (by assumption) ?_
              rotate_left
              · (intro w hSw; (try dsimp only at hSw); first | (go_simp; done) | (go_simp; with_reducible rfl))
              try simp only [Act.put, List.setIfInBounds_toArray, List.set_cons_zero, List.set_cons_succ]
              refine wpAnyH_take (i := 16) (oi := { dst := some 88, op := Op.move (Operand.tmp 10), type := 30, pos := "law.go:97", after := #[{ on := 15, ground := Ground.guard }], guard := some (15, false) }) (v := ?_) rfl (by kernel_rfl) (by kernel_rfl) (by kernel_rfl) (fun _ _ _ h => h) (Or.inl ⟨rfl, ?_⟩) (by assumption) ?_
              rotate_left
              · (intro w hSw; (try dsimp only at hSw); first | (go_simp; done) | (go_simp; with_reducible rfl))
              try simp only [Act.put, List.setIfInBounds_toArray, List.set_cons_zero, List.set_cons_succ]
              refine wpAnyH_take (i := 18) (oi := { dst := some 90, op := Op.move (Operand.tmp 12), type := 44, pos := "law.go:97", after := #[{ on := 15, ground := Ground.guard }], guard := some (15, false) }) (v := ?_) rfl (by kernel_rfl) (by kernel_rfl) (by kernel_rfl) (fun _ _ _ h => h) (Or.inl ⟨rfl, ?_⟩) (by assumption) ?_
              rotate_left
              · (intro w hSw; (try dsimp only at hSw); first | (go_simp; done) | (go_simp; with_reducible rfl))
              try simp only [Act.put, List.setIfInBounds_toArray, List.set_cons_zero, List.set_cons_succ]
              refine wpAnyH_take (i := 19) (oi := { dst := some 91, op := Op.nilCheck (Operand.tmp 90), type := 0, pos := "law.go:97", after := #[{ on := 18, ground := Ground.data }, { on := 15, ground := Ground.guard }], guard := some (15, false) }) (v := ?_) rfl (by kernel_rfl) (by kernel_rfl) (by kernel_rfl) (fun _ _ _ h => h) (Or.inl ⟨rfl, ?_⟩) (by assumption) ?_
              rotate_left
              · (intro w hSw; (try dsimp only at hSw); first | (go_simp; done) | (go_simp; with_reducible rfl))
              try simp only [Act.put, List.setIfInBounds_toArray, List.set_cons_zero, List.set_cons_succ]
              refine wpAnyH_take (i := 20) (oi := { dst := some 92, op := Op.fieldAddr 46 (Operand.tmp 91) 1, type := 0, pos := "law.go:97", after := #[{ on := 19, ground := Ground.data }, { on := 15, ground := Ground.guard }], guard := some (15, false) }) (v := ?_) rfl (by kernel_rfl) (by kernel_rfl) (by kernel_rfl) (fun _ _ _ h => h) (Or.inl ⟨rfl, ?_⟩) (by assumption) ?_
              rotate_left
              · (intro w hSw; (try dsimp only at hSw); first | (go_simp; done) | (go_simp; with_reducible rfl))
              try simp only [Act.put, List.setIfInBounds_toArray, List.set_cons_zero, List.set_cons_succ]
              refine wpAnyH_take (i := 21) (oi := { dst := some 93, op := Op.load 27 (Operand.tmp 92), type := 27, pos := "law.go:97", after := #[{ on := 20, ground := Ground.data }, { on := 15, ground := Ground.guard }], guard := some (15, false) }) (v := ?_) rfl (by kernel_rfl) (by kernel_rfl) (by kernel_rfl) (fun _ _ _ h => h) (Or.inl ⟨rfl, ?_⟩) (by assumption) ?_
              rotate_left
              · (intro w hSw; (try dsimp only at hSw); first | (go_simp; done) | (go_simp; with_reducible rfl))
              try simp only [Act.put, List.setIfInBounds_toArray, List.set_cons_zero, List.set_cons_succ]
              refine wpAnyH_ready (rs := [17]) (by kernel_rfl) (by simp) ?_
              refine AllReadyH.cons (o := { dst := some 89, op := Op.call { callee := Callee.value (Operand.func 12), args := #[Operand.tmp 88], argTypes := #[30] }, type := 25, pos := "law.go:97", after := #[{ on := 16, ground := Ground.data }, { on := 15, ground := Ground.chain }, { on := 15, ground := Ground.guard }], guard := some (15, false) }) rfl (fun K hK => ?_) AllReadyH.nil
              go_simp
              refine (charged_any (wr.heap.size + 1) q' _ hHeld.1).mono ?_; rintro e w' ⟨rfl, hw⟩; obtain rfl := hw.symm; clear hw
              go_wp2_with fail
              refine hK.out _ _ ?_ (fun hHeld => ?_)
              · (try dsimp only)
                ((try dsimp only at *); go_split_ands; refine ⟨?_, ?_, ?_, ?_, ?_, ?_, ?_, ?_⟩ <;> (first | with_reducible assumption | with_reducible exact keep_b hb2 (by with_reducible assumption) | exact heap_b hb2 (by with_reducible assumption) | with_reducible exact below_s (by with_reducible assumption) hb2))
              clear hK
              try simp only [Act.put, List.setIfInBounds_toArray, List.set_cons_zero, List.set_cons_succ]
              refine wpAnyH_ready (rs := [22]) (by kernel_rfl) (by simp) ?_
              refine AllReadyH.cons (o := { dst := some 94, op := Op.call { callee := Callee.value (Operand.func 22), args := #[Operand.tmp 89, Operand.tmp 93], argTypes := #[25, 27] }, type := 4, pos := "law.go:97", after := #[{ on := 17, ground := Ground.data }, { on := 21, ground := Ground.data }, { on := 17, ground := Ground.chain }, { on := 15, ground := Ground.guard }], guard := some (15, false) }) rfl (fun K hK => ?_) AllReadyH.nil
              go_simp
              refine (s2.out _).mono ?_; rintro e w2 ⟨rfl, hb2⟩
              go_wp2_with fail
              refine hK.out _ _ ?_ (fun hHeld => ?_)
              · (try dsimp only)
                ((try dsimp only at *); go_split_ands; refine ⟨?_, ?_, ?_, ?_, ?_, ?_, ?_, ?_⟩ <;> (first | with_reducible assumption | with_reducible exact keep_b hb2 (by with_reducible assumption) | exact heap_b hb2 (by with_reducible assumption) | with_reducible exact below_s (by with_reducible assumption) hb2))
              clear hK
              try simp only [Act.put, List.setIfInBounds_toArray, List.set_cons_zero, List.set_cons_succ]
              refine wpAnyH_take (i := 23) (oi := { dst := some 95, op := Op.unOp UnOp.not 4 (Operand.tmp 94), type := 4, pos := "law.go:97", after := #[{ on := 22, ground := Ground.data }, { on := 15, ground := Ground.guard }], guard := some (15, false) }) (v := ?_) rfl (by kernel_rfl) (by kernel_rfl) (by kernel_rfl) (fun _ _ _ h => h) (Or.inl ⟨rfl, ?_⟩) (by assumption) ?_
              rotate_left
              · (intro w hSw; (try dsimp only at hSw); first | (go_simp; done) | (go_simp; with_reducible rfl))
              try simp only [Act.put, List.setIfInBounds_toArray, List.set_cons_zero, List.set_cons_succ]
              refine wpAnyH_take (i := 24) (oi := { dst := some 96, op := Op.pick (Operand.tmp 87) (Operand.const (Value.bool true)) (Operand.tmp 95), type := 4, pos := "law.go:97", after := #[{ on := 15, ground := Ground.data }, { on := 23, ground := Ground.data }], guard := none }) (v := ?_) rfl (by kernel_rfl) (by kernel_rfl) (by kernel_rfl) (fun _ _ _ h => h) (Or.inl ⟨rfl, ?_⟩) (by assumption) ?_
              rotate_left
              · (intro w hSw; (try dsimp only at hSw); first | (go_simp; done) | (go_simp; with_reducible rfl))
              try simp only [Act.put, List.setIfInBounds_toArray, List.set_cons_zero, List.set_cons_succ]
              refine wpAnyH_take (i := 25) (oi := { dst := some 97, op := Op.move (Operand.tmp 96), type := 4, pos := "law.go:97", after := #[{ on := 24, ground := Ground.data }, { on := 22, ground := Ground.chain }], guard := none }) (v := ?_) rfl (by kernel_rfl) (by kernel_rfl) (by kernel_rfl) (fun _ _ _ h => h) (Or.inl ⟨rfl, ?_⟩) (by assumption) ?_
              rotate_left
              · (intro w hSw; (try dsimp only at hSw); first | (go_simp; done) | (go_simp; with_reducible rfl))
              try simp only [Act.put, List.setIfInBounds_toArray, List.set_cons_zero, List.set_cons_succ]
              refine wpAnyH_take (i := 26) (oi := { dst := some 98, op := Op.move (Operand.tmp 10), type := 30, pos := "law.go:97", after := #[{ on := 25, ground := Ground.guard }], guard := some (25, false) }) (v := ?_) rfl (by kernel_rfl) (by kernel_rfl) (by kernel_rfl) (fun _ _ _ h => h) (Or.inl ⟨rfl, ?_⟩) (by assumption) ?_
              rotate_left
              · (intro w hSw; (try dsimp only at hSw); first | (go_simp; done) | (go_simp; with_reducible rfl))
              try simp only [Act.put, List.setIfInBounds_toArray, List.set_cons_zero, List.set_cons_succ]
              refine wpAnyH_take (i := 28) (oi := { dst := some 100, op := Op.move (Operand.tmp 12), type := 44, pos := "law.go:97", after := #[{ on := 25, ground := Ground.guard }], guard := some (25, false) }) (v := ?_) rfl (by kernel_rfl) (by kernel_rfl) (by kernel_rfl) (fun _ _ _ h => h) (Or.inl ⟨rfl, ?_⟩) (by assumption) ?_
              rotate_left
              · (intro w hSw; (try dsimp only at hSw); first | (go_simp; done) | (go_simp; with_reducible rfl))
              try simp only [Act.put, List.setIfInBounds_toArray, List.set_cons_zero, List.set_cons_succ]
              refine wpAnyH_take (i := 29) (oi := { dst := some 101, op := Op.nilCheck (Operand.tmp 100), type := 0, pos := "law.go:97", after := #[{ on := 28, ground := Ground.data }, { on := 25, ground := Ground.guard }], guard := some (25, false) }) (v := ?_) rfl (by kernel_rfl) (by kernel_rfl) (by kernel_rfl) (fun _ _ _ h => h) (Or.inl ⟨rfl, ?_⟩) (by assumption) ?_
              rotate_left
              · (intro w hSw; (try dsimp only at hSw); first | (go_simp; done) | (go_simp; with_reducible rfl))
              try simp only [Act.put, List.setIfInBounds_toArray, List.set_cons_zero, List.set_cons_succ]
              refine wpAnyH_take (i := 30) (oi := { dst := some 102, op := Op.fieldAddr 46 (Operand.tmp 101) 2, type := 0, pos := "law.go:97", after := #[{ on := 29, ground := Ground.data }, { on := 25, ground := Ground.guard }], guard := some (25, false) }) (v := ?_) rfl (by kernel_rfl) (by kernel_rfl) (by kernel_rfl) (fun _ _ _ h => h) (Or.inl ⟨rfl, ?_⟩) (by assumption) ?_
              rotate_left
              · (intro w hSw; (try dsimp only at hSw); first | (go_simp; done) | (go_simp; with_reducible rfl))
              try simp only [Act.put, List.setIfInBounds_toArray, List.set_cons_zero, List.set_cons_succ]
              refine wpAnyH_take (i := 31) (oi := { dst := some 103, op := Op.load 27 (Operand.tmp 102), type := 27, pos := "law.go:97", after := #[{ on := 30, ground := Ground.data }, { on := 25, ground := Ground.guard }], guard := some (25, false) }) (v := ?_) rfl (by kernel_rfl) (by kernel_rfl) (by kernel_rfl) (fun _ _ _ h => h) (Or.inl ⟨rfl, ?_⟩) (by assumption) ?_
              rotate_left
              · (intro w hSw; (try dsimp only at hSw); first | (go_simp; done) | (go_simp; with_reducible rfl))
              try simp only [Act.put, List.setIfInBounds_toArray, List.set_cons_zero, List.set_cons_succ]
              refine wpAnyH_ready (rs := [27]) (by kernel_rfl) (by simp) ?_
              refine AllReadyH.cons (o := { dst := some 99, op := Op.call { callee := Callee.value (Operand.func 13), args := #[Operand.tmp 98], argTypes := #[30] }, type := 25, pos := "law.go:97", after := #[{ on := 26, ground := Ground.data }, { on := 25, ground := Ground.chain }, { on := 25, ground := Ground.guard }], guard := some (25, false) }) rfl (fun K hK => ?_) AllReadyH.nil
              go_simp
              refine (reserved_any (wr.heap.size + 1) q' _ hHeld.1).mono ?_; rintro e w' ⟨rfl, hw⟩; obtain rfl := hw.symm; clear hw
              go_wp2_with fail
              refine hK.out _ _ ?_ (fun hHeld => ?_)
              · (try dsimp only)
                ((try dsimp only at *); go_split_ands; refine ⟨?_, ?_, ?_, ?_, ?_, ?_, ?_, ?_⟩ <;> (first | with_reducible assumption | with_reducible exact keep_b hb2 (by with_reducible assumption) | exact heap_b hb2 (by with_reducible assumption) | with_reducible exact below_s (by with_reducible assumption) hb2))
              clear hK
              try simp only [Act.put, List.setIfInBounds_toArray, List.set_cons_zero, List.set_cons_succ]
              refine wpAnyH_ready (rs := [32]) (by kernel_rfl) (by simp) ?_
              refine AllReadyH.cons (o := { dst := some 104, op := Op.call { callee := Callee.value (Operand.func 22), args := #[Operand.tmp 99, Operand.tmp 103], argTypes := #[25, 27] }, type := 4, pos := "law.go:97", after := #[{ on := 27, ground := Ground.data }, { on := 31, ground := Ground.data }, { on := 27, ground := Ground.chain }, { on := 25, ground := Ground.guard }], guard := some (25, false) }) rfl (fun K hK => ?_) AllReadyH.nil
              go_simp
              refine (s3.out _).mono ?_; rintro e w2 ⟨rfl, hb2⟩
              go_wp2_with fail
              refine hK.out _ _ ?_ (fun hHeld => ?_)
              · (try dsimp only)
                ((try dsimp only at *); go_split_ands; refine ⟨?_, ?_, ?_, ?_, ?_, ?_, ?_, ?_⟩ <;> (first | with_reducible assumption | with_reducible exact keep_b hb2 (by with_reducible assumption) | exact heap_b hb2 (by with_reducible assumption) | with_reducible exact below_s (by with_reducible assumption) hb2))
              clear hK
              try simp only [Act.put, List.setIfInBounds_toArray, List.set_cons_zero, List.set_cons_succ]
              refine wpAnyH_take (i := 33) (oi := { dst := some 105, op := Op.unOp UnOp.not 4 (Operand.tmp 104), type := 4, pos := "law.go:97", after := #[{ on := 32, ground := Ground.data }, { on := 25, ground := Ground.guard }], guard := some (25, false) }) (v := ?_) rfl (by kernel_rfl) (by kernel_rfl) (by kernel_rfl) (fun _ _ _ h => h) (Or.inl ⟨rfl, ?_⟩) (by assumption) ?_
              rotate_left
              · (intro w hSw; (try dsimp only at hSw); first | (go_simp; done) | (go_simp; with_reducible rfl))
              try simp only [Act.put, List.setIfInBounds_toArray, List.set_cons_zero, List.set_cons_succ]
              refine wpAnyH_take (i := 34) (oi := { dst := some 106, op := Op.pick (Operand.tmp 97) (Operand.const (Value.bool true)) (Operand.tmp 105), type := 4, pos := "law.go:97", after := #[{ on := 25, ground := Ground.data }, { on := 33, ground := Ground.data }], guard := none }) (v := ?_) rfl (by kernel_rfl) (by kernel_rfl) (by kernel_rfl) (fun _ _ _ h => h) (Or.inl ⟨rfl, ?_⟩) (by assumption) ?_
              rotate_left
              · (intro w hSw; (try dsimp only at hSw); first | (go_simp; done) | (go_simp; with_reducible rfl))
              try simp only [Act.put, List.setIfInBounds_toArray, List.set_cons_zero, List.set_cons_succ]
              refine wpAnyH_done (by kernel_rfl) ?_ _
              refine NoPanic.normal ?_
              have hHl := hHeld.2.2.2.2.2.2.2
              have hQf := hHeld.1
              go_wp2_with fail
              go_round
              case rel => exact ⟨j + 1, q', (wr.heap.size + 1), by omega, rfl, by go_num, hw6.out, hQf, hR6.below hHl, hne, hlq, below_s hB6 hHl⟩
              case measure => simp [intOf]; omega
        · obtain rfl : j = xs.length := by omega
          go_wp2_with fail
          go_ret
          exact ⟨rfl, hB⟩
    · replace hlen : 1000 < n := by omega
      go_enter Try.func6, Try.ntmps6
      go_wp2_with fail
      refine (l1.out _).mono ?_; rintro e w1 ⟨rfl, hb1⟩
      go_wp2_with fail
      have hsz := hb1.size
      refine (n1.out _).mono ?_; rintro e w5 ⟨rfl, hQ, hb5⟩
      simp only [World.size_alloc] at hQ
      have t0 : w5.cell? ⟨w1.heap.size, 0, none⟩ = some (.int .i64 b) := keep_b hb5 (new_cell rfl)
      have t1 : w5.cell? ⟨w1.heap.size, 1, none⟩ = some (.int .i64 p) := keep_b hb5 (new_cell rfl)
      have hB5 : Below w.heap.size w w5 := below_s (below_alloc hb1.size hb1) hb5
      clear hb5 hb1
      go_wp2_with fail
      refine (aw.out _).mono ?_; rintro e w3 ⟨rfl, hb3⟩
      have t0 := keep_b hb3 t0
      have t1 := keep_b hb3 t1
      have hQ := hQ.below hb3
      have hB3 : Below w.heap.size w w3 := below_s hB5 hb3
      clear hb3 hB5
      go_wp2_with fail
      go_ret
      exact ⟨rfl, hB3⟩

end Go.Proofs.Ytmgcaljaaemoaaa
