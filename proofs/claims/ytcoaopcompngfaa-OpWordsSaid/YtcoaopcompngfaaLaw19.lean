/- The walks of OpChecks, OpWords and OpAsks. -/
import Derived.Test.YtcoaopcompngfaaRef19
import Derived.Test.YtcoaopcompngfaaWord19
import Derived.Test.YtcoaopcompngfaaOpen19
import Derived.Deep.RegionHeld3
namespace Go.Proofs.Ytcoaopcompngfaa
open Go.RowKit
set_option linter.unusedVariables false

attribute [local irreducible] smallT unitT kindT perT pagesT alignT chargeT wordT

theorem askT300 : askT (rightB 5 0 ⟨#[]⟩) (askN 5 3 100) = 300 := by unfold askT askN; decide
theorem kind10 : kindW ⟨#[119, 114, 105, 116, 101]⟩ = 10 := by decide +kernel
theorem asks300 (w : World) : Calls Try.prog 10 #[.agg #[.int .i64 5, .int .i64 0, .int .i64 3, .int .i64 100, .int .u64 0, .string ⟨#[]⟩]] w fun e w' => e = .returned (.int .i64 300) ∧ Below w.heap.size w w' := by
  have := opAsks_any 5 0 3 100 0 ⟨#[]⟩ w (by decide)
  rwa [askT300] at this
theorem kindWrite (w : World) : Calls Try.prog 14 #[.string ⟨#[119, 114, 105, 116, 101]⟩] w fun e w' => e = .returned (.int .i64 10) ∧ w' = w := by
  have := opKind_any ⟨#[119, 114, 105, 116, 101]⟩ w
  rwa [kind10] at this
theorem word9 (w : World) : Calls Try.prog 12 #[.int .i64 9] w fun e w' => e = .returned (.string ⟨#[114, 101, 97, 100]⟩) ∧ w' = w := by
  have := opWord_any 9 w
  rwa [word_9] at this

theorem awake_any (w : World) : Calls Try.prog 8 #[] w fun e w' => e = .returned (.bool true) ∧ Below w.heap.size w w' := by
  go_enter Try.func8, Try.ntmps8
  go_wp2_with fail
  refine (opCheck_yes _ _ _ _ _ _ _ (by decide) (by decide)).mono ?_; rintro e w1 ⟨rfl, hb1⟩
  go_wp2_with fail
  refine (opCheck_no _ _ _ _ _ _ _ (by decide) (by decide)).mono ?_; rintro e w2 ⟨rfl, hb2⟩
  go_wp2_with fail
  refine (word9 _).mono ?_; rintro e w' ⟨rfl, hw⟩; obtain rfl := hw.symm
  clear hw
  go_wp2_with fail
  refine (kindWrite _).mono ?_; rintro e w' ⟨rfl, hw⟩; obtain rfl := hw.symm
  clear hw
  go_wp2_with fail
  refine (asks300 _).mono ?_; rintro e w3 ⟨rfl, hb3⟩
  go_wp2_with fail
  refine (opAdmin_any _ _ _ _ _ _ _ (by decide)).mono ?_; rintro e w4 ⟨rfl, hb4⟩
  go_wp2_with fail
  go_ret
  exact ⟨rfl, below_s (below_s (below_s hb1 hb2) hb3) hb4⟩

theorem opWords_walk (k : Int) (s : ByteArray) (w : World) (hs : s.size ≤ maxLen) :
    Calls Try.prog 4 #[.int .i64 k, .string s] w fun e w' => e = .returned (.bool true) ∧ Below w.heap.size w w' := by
  by_cases h : k < 1 ∨ 11 < k
  · have he := word_out h
    have hw0 : ∀ w, Calls Try.prog 12 #[.int .i64 k] w fun e w' => e = .returned (.string ⟨#[]⟩) ∧ w' = w := by
      intro w; have := opWord_any k w; rwa [he] at this
    have hr0 : ∀ w, Calls Try.prog 13 #[.int .i64 k] w fun e w' => e = .returned (.string ⟨#[]⟩) ∧ Below w.heap.size w w' := by
      intro w; have := refWord_any k w; rwa [he] at this
    replace hw0 := Lib.hid hw0
    replace hr0 := Lib.hid hr0
    clear he h
    go_enter Try.func4, Try.ntmps4
    go_wp2_with fail
    refine (awake_any _).mono ?_; rintro e w1 ⟨rfl, hb1⟩
    go_wp2_with fail
    refine (hw0.out _).mono ?_; rintro e w' ⟨rfl, hw⟩; obtain rfl := hw.symm
    clear hw
    go_wp2_with fail
    refine (hr0.out _).mono ?_; rintro e w2 ⟨rfl, hb2⟩
    go_wp2_with fail
    refine (opKind_any _ _).mono ?_; rintro e w' ⟨rfl, hw⟩; obtain rfl := hw.symm
    clear hw
    go_wp2_with fail
    refine (refKind_word _ _).mono ?_; rintro e w3 ⟨rfl, hb3⟩
    go_wp2_with fail
    refine (hw0.out _).mono ?_; rintro e w' ⟨rfl, hw⟩; obtain rfl := hw.symm
    clear hw
    go_wp2_with fail
    go_ret
    exact ⟨rfl, below_s (below_s hb1 hb2) hb3⟩
  · have h0 : 1 ≤ k := by omega
    have h1 : k ≤ 11 := by omega
    clear h
    have hf := (word_full h0 h1).1
    have hk0 : ∀ w, Calls Try.prog 14 #[.string (wordT k)] w fun e w' => e = .returned (.int .i64 k) ∧ w' = w := by
      intro w; have := opKind_any (wordT k) w; rwa [kindW_back h0 h1] at this
    replace hk0 := Lib.hid hk0
    clear h0 h1
    go_enter Try.func4, Try.ntmps4
    go_wp2_with fail
    refine (awake_any _).mono ?_; rintro e w1 ⟨rfl, hb1⟩
    go_wp2_with fail
    refine (opWord_any _ _).mono ?_; rintro e w' ⟨rfl, hw⟩; obtain rfl := hw.symm
    clear hw
    go_wp2_with fail
    refine (refWord_any _ _).mono ?_; rintro e w2 ⟨rfl, hb2⟩
    go_wp2_with fail
    refine (opKind_any _ _).mono ?_; rintro e w' ⟨rfl, hw⟩; obtain rfl := hw.symm
    clear hw
    go_wp2_with fail
    refine (refKind_word _ _).mono ?_; rintro e w3 ⟨rfl, hb3⟩
    go_wp2_with fail
    refine (opWord_any _ _).mono ?_; rintro e w' ⟨rfl, hw⟩; obtain rfl := hw.symm
    clear hw
    go_wp2_with fail
    refine (opWord_any _ _).mono ?_; rintro e w' ⟨rfl, hw⟩; obtain rfl := hw.symm
    clear hw
    go_wp2_with fail
    refine (hk0.out _).mono ?_; rintro e w' ⟨rfl, hw⟩; obtain rfl := hw.symm
    clear hw
    go_wp2_with fail
    go_ret
    exact ⟨rfl, below_s (below_s hb1 hb2) hb3⟩

theorem ask_not_admin {K N M T : Int} {s : ByteArray} (h : 1 ≤ askT (rightB K T s) (askN K N M)) : (rightB K T s && decide (K ≤ 3)) = false := by
  have : 3 < K := by
    by_cases hk : K = 4 ∨ K = 7
    · omega
    · by_cases h5 : K = 5
      · omega
      · exfalso
        have e : askN K N M = 0 := by unfold askN; rw [if_neg hk, if_neg (fun q => h5 q.1)]
        rw [e] at h
        unfold askT at h
        rw [if_neg (by omega)] at h
        omega
  rw [decide_eq_false (by omega), Bool.and_false]

theorem opAsks_law (K T N M H : Int) (s : ByteArray) (w : World) (hs : s.size ≤ maxLen) :
    Calls Try.prog 5 #[.agg #[.int .i64 K, .int .i64 T, .int .i64 N, .int .i64 M, .int .u64 H, .string s]] w fun e w' => e = .returned (.bool true) ∧ Below w.heap.size w w' := by
  have ha := fun w => opAsks_any K T N M H s w hs
  have hd := fun w => opAdmin_any K T N M H s w hs
  have hn := ask_not_admin (K := K) (T := T) (N := N) (M := M) (s := s)
  obtain ⟨b0, b1⟩ := askT_bound (rightB K T s) (askN K N M)
  generalize askT (rightB K T s) (askN K N M) = n at *
  by_cases h0 : n = 0
  · subst h0
    clear hn b0 b1
    replace ha := Lib.hid ha
    replace hd := Lib.hid hd
    go_enter Try.func5, Try.ntmps5
    go_wp2_with fail
    refine (ha.out _).mono ?_; rintro e w1 ⟨rfl, hb1⟩
    go_wp2_with fail
    refine (awake_any _).mono ?_; rintro e w2 ⟨rfl, hb2⟩
    go_wp2_with fail
    go_ret
    exact ⟨rfl, below_s (below_s (below_alloc (Nat.le_refl _) (Below.refl _ _)) hb1) hb2⟩
  · have n0 : 1 ≤ n := by omega
    rw [hn n0] at hd
    replace ha := Lib.hid ha
    replace hd := Lib.hid hd
    have hc : n ≤ chargeT n := by unfold chargeT; exact (unit_kind n0 b1).2.2.1
    have e0 : (n == 0) = false := beq_eq_false_iff_ne.2 h0
    clear hn h0
    go_enter Try.func5, Try.ntmps5
    go_wp2_with fail
    refine (ha.out _).mono ?_; rintro e w1 ⟨rfl, hb1⟩
    go_wp2_with fail
    refine (awake_any _).mono ?_; rintro e w2 ⟨rfl, hb2⟩
    go_wp2_with fail
    refine (refCharge_any _ _).mono ?_; rintro e w3 ⟨rfl, hb3⟩
    have hb := below_s (below_s hb1 hb2) hb3
    have hr := (below_reads hb).1
    simp only [World.size_alloc] at hr
    clear hb1 hb2 hb3
    go_wp2_with fail
    refine (hd.out _).mono ?_; rintro e w4 ⟨rfl, hb4⟩
    clear hr
    go_wp2_with fail
    go_ret
    exact ⟨rfl, below_s (below_s (below_alloc (Nat.le_refl _) (Below.refl _ _)) hb) hb4⟩

theorem opAsks_walk (z : OpD) (w : World) (hs : z.s.size ≤ maxLen) :
    Calls Try.prog 5 #[z.v] w fun e w' => e = .returned (.bool true) ∧ Below w.heap.size w w' := opAsks_law z.K z.T z.N z.M z.H z.s w hs

set_option maxHeartbeats 1000000 in
theorem checks_law (K T N M H : Int) (s : ByteArray) (w : World) (hs : s.size ≤ maxLen) :
    Calls Try.prog 3 #[.agg #[.int .i64 K, .int .i64 T, .int .i64 N, .int .i64 M, .int .u64 H, .string s]] w fun e w' => e = .returned (.bool true) ∧ Below w.heap.size w w' := by
  have hR := fun w => refRight_any K T N M H s w hs
  have ha := fun w => opAsks_any K T N M H s w hs
  have hr := fun w => refAsks_any K T N M H s w hs
  have hd := fun w => opAdmin_any K T N M H s w hs
  generalize askT (rightB K T s) (askN K N M) = n at *
  replace ha := Lib.hid ha
  replace hr := Lib.hid hr
  cases h : rightB K T s with
  | true =>
    have hc := fun w => opCheck_yes K T N M H s w hs h
    rw [h] at hR hd
    simp only [Bool.true_and] at hd
    replace hR := Lib.hid hR
    replace hd := Lib.hid hd
    replace hc := Lib.hid hc
    clear h
    go_enter Try.func3, Try.ntmps3
    go_wp2_with fail
    refine (hR.out _).mono ?_; rintro e w1 ⟨rfl, hb1⟩
    have hk := (below_reads hb1).1
    simp only [World.size_alloc] at hk
    go_wp2_with fail
    refine (hc.out _).mono ?_; rintro e w2 ⟨rfl, hb2⟩
    have hk2 := (below_reads (below_s hb1 hb2)).1
    simp only [World.size_alloc] at hk2
    clear hk
    go_wp2_with fail
    refine wp_name (fun W => W.cell? ⟨w.heap.size, 0, none⟩ = some (.int .i64 K) ∧ W.cell? ⟨w.heap.size, 1, none⟩ = some (.int .i64 T) ∧ W.cell? ⟨w.heap.size, 2, none⟩ = some (.int .i64 N) ∧ W.cell? ⟨w.heap.size, 3, none⟩ = some (.int .i64 M) ∧ W.cell? ⟨w.heap.size, 4, none⟩ = some (.int .u64 H) ∧ W.cell? ⟨w.heap.size, 5, none⟩ = some (.string s) ∧ Below w.heap.size w W) ⟨?_, ?_, ?_, ?_, ?_, ?_, ?_⟩ ?_
    iterate 6 exact (hk2 _ _ (by omega)).trans (new_cell rfl)
    · exact below_s (below_s (below_alloc (Nat.le_refl _) (Below.refl _ _)) hb1) hb2
    rintro W1 ⟨z0, z1, z2, z3, z4, z5, zb⟩
    clear hk2 hb1 hb2
    refine wp_region_noPanic ?_
    refine wp_region_held_drew (S := (fun W => W.cell? ⟨w.heap.size, 0, none⟩ = some (.int .i64 K) ∧ W.cell? ⟨w.heap.size, 1, none⟩ = some (.int .i64 T) ∧ W.cell? ⟨w.heap.size, 2, none⟩ = some (.int .i64 N) ∧ W.cell? ⟨w.heap.size, 3, none⟩ = some (.int .i64 M) ∧ W.cell? ⟨w.heap.size, 4, none⟩ = some (.int .u64 H) ∧ W.cell? ⟨w.heap.size, 5, none⟩ = some (.string s) ∧ Below w.heap.size w W)) (by kernel_rfl) ?_ (fun hHeld => ?_)
    · (try dsimp only)
      ((try dsimp only at *); go_split_ands; refine ⟨?_, ?_, ?_, ?_, ?_, ?_, ?_⟩ <;> (first | with_reducible assumption | with_reducible exact keep_b hb2 (by with_reducible assumption) | with_reducible exact keep_drew (by with_reducible assumption) | with_reducible exact keep_b hb2 (keep_drew (by with_reducible assumption)) | with_reducible exact below_s (by with_reducible assumption) hb2 | with_reducible exact below_s (by with_reducible exact Below.drew (by with_reducible assumption)) hb2 | with_reducible exact Below.drew (by with_reducible assumption)))
    refine wpAnyH_ready (rs := [0]) (by kernel_rfl) (by simp) ?_
    refine AllReadyH.cons (o := { dst := some 9, op := Op.call { callee := Callee.value (Operand.func 8), args := #[], argTypes := #[] }, type := 4, pos := "law.go:20", after := #[], guard := none }) rfl (fun K hK => ?_) AllReadyH.nil
    go_simp
    refine (awake_any _).mono ?_; rintro e w2 ⟨rfl, hb2⟩
    go_wp2_with fail
    refine hK.out _ _ ?_ (fun hHeld => ?_)
    · (try dsimp only)
      ((try dsimp only at *); go_split_ands; refine ⟨?_, ?_, ?_, ?_, ?_, ?_, ?_⟩ <;> (first | with_reducible assumption | with_reducible exact keep_b hb2 (by with_reducible assumption) | with_reducible exact keep_drew (by with_reducible assumption) | with_reducible exact keep_b hb2 (keep_drew (by with_reducible assumption)) | with_reducible exact below_s (by with_reducible assumption) hb2 | with_reducible exact below_s (by with_reducible exact Below.drew (by with_reducible assumption)) hb2 | with_reducible exact Below.drew (by with_reducible assumption)))
    clear hK
    try simp only [Act.put, List.setIfInBounds_toArray, List.set_cons_zero, List.set_cons_succ]
    refine wpAnyH_take (i := 1) (oi := { dst := some 10, op := Op.move (Operand.tmp 9), type := 4, pos := "law.go:20", after := #[{ on := 0, ground := Ground.data }, { on := 0, ground := Ground.chain }], guard := none }) (v := ?_) rfl (by kernel_rfl) (by kernel_rfl) (by kernel_rfl) (fun _ _ _ h => h) (Or.inl ⟨rfl, ?_⟩) (by assumption) ?_
    rotate_left
    · (intro w hSw; (try dsimp only at hSw); first | (go_simp; done) | (go_simp; with_reducible rfl))
    try simp only [Act.put, List.setIfInBounds_toArray, List.set_cons_zero, List.set_cons_succ]
    refine wpAnyH_take (i := 2) (oi := { dst := some 11, op := Op.move (Operand.tmp 4), type := 26, pos := "law.go:20", after := #[{ on := 1, ground := Ground.guard }], guard := some (1, true) }) (v := ?_) rfl (by kernel_rfl) (by kernel_rfl) (by kernel_rfl) (fun _ _ _ h => h) (Or.inl ⟨rfl, ?_⟩) (by assumption) ?_
    rotate_left
    · (intro w hSw; (try dsimp only at hSw); first | (go_simp; done) | (go_simp; with_reducible rfl))
    try simp only [Act.put, List.setIfInBounds_toArray, List.set_cons_zero, List.set_cons_succ]
    refine wpAnyH_take (i := 3) (oi := { dst := some 12, op := Op.binOp BinOp.eql 26 (Operand.tmp 11) (Operand.const (Value.int IntKind.i64 0)) 26, type := 4, pos := "law.go:20", after := #[{ on := 2, ground := Ground.data }, { on := 1, ground := Ground.guard }], guard := some (1, true) }) (v := ?_) rfl (by kernel_rfl) (by kernel_rfl) (by kernel_rfl) (fun _ _ _ h => h) (Or.inl ⟨rfl, ?_⟩) (by assumption) ?_
    rotate_left
    · (intro w hSw; (try dsimp only at hSw); first | (go_simp; done) | (go_simp; with_reducible rfl))
    try simp only [Act.put, List.setIfInBounds_toArray, List.set_cons_zero, List.set_cons_succ]
    refine wpAnyH_take (i := 4) (oi := { dst := some 13, op := Op.move (Operand.tmp 3), type := 4, pos := "law.go:20", after := #[{ on := 1, ground := Ground.guard }], guard := some (1, true) }) (v := ?_) rfl (by kernel_rfl) (by kernel_rfl) (by kernel_rfl) (fun _ _ _ h => h) (Or.inl ⟨rfl, ?_⟩) (by assumption) ?_
    rotate_left
    · (intro w hSw; (try dsimp only at hSw); first | (go_simp; done) | (go_simp; with_reducible rfl))
    try simp only [Act.put, List.setIfInBounds_toArray, List.set_cons_zero, List.set_cons_succ]
    refine wpAnyH_take (i := 5) (oi := { dst := some 14, op := Op.binOp BinOp.eql 4 (Operand.tmp 12) (Operand.tmp 13) 4, type := 4, pos := "law.go:20", after := #[{ on := 3, ground := Ground.data }, { on := 4, ground := Ground.data }, { on := 1, ground := Ground.guard }], guard := some (1, true) }) (v := ?_) rfl (by kernel_rfl) (by kernel_rfl) (by kernel_rfl) (fun _ _ _ h => h) (Or.inl ⟨rfl, ?_⟩) (by assumption) ?_
    rotate_left
    · (intro w hSw; (try dsimp only at hSw); first | (go_simp; done) | (go_simp; with_reducible rfl))
    try simp only [Act.put, List.setIfInBounds_toArray, List.set_cons_zero, List.set_cons_succ]
    refine wpAnyH_take (i := 6) (oi := { dst := some 15, op := Op.pick (Operand.tmp 10) (Operand.tmp 14) (Operand.const (Value.bool false)), type := 4, pos := "law.go:20", after := #[{ on := 1, ground := Ground.data }, { on := 5, ground := Ground.data }], guard := none }) (v := ?_) rfl (by kernel_rfl) (by kernel_rfl) (by kernel_rfl) (fun _ _ _ h => h) (Or.inl ⟨rfl, ?_⟩) (by assumption) ?_
    rotate_left
    · (intro w hSw; (try dsimp only at hSw); first | (go_simp; done) | (go_simp; with_reducible rfl))
    try simp only [Act.put, List.setIfInBounds_toArray, List.set_cons_zero, List.set_cons_succ]
    refine wpAnyH_take (i := 7) (oi := { dst := some 16, op := Op.move (Operand.tmp 15), type := 4, pos := "law.go:20", after := #[{ on := 6, ground := Ground.data }, { on := 1, ground := Ground.chain }], guard := none }) (v := ?_) rfl (by kernel_rfl) (by kernel_rfl) (by kernel_rfl) (fun _ _ _ h => h) (Or.inl ⟨rfl, ?_⟩) (by assumption) ?_
    rotate_left
    · (intro w hSw; (try dsimp only at hSw); first | (go_simp; done) | (go_simp; with_reducible rfl))
    try simp only [Act.put, List.setIfInBounds_toArray, List.set_cons_zero, List.set_cons_succ]
    refine wpAnyH_take (i := 8) (oi := { dst := some 17, op := Op.move (Operand.tmp 3), type := 4, pos := "law.go:20", after := #[{ on := 7, ground := Ground.guard }], guard := some (7, true) }) (v := ?_) rfl (by kernel_rfl) (by kernel_rfl) (by kernel_rfl) (fun _ _ _ h => h) (Or.inl ⟨rfl, ?_⟩) (by assumption) ?_
    rotate_left
    · (intro w hSw; (try dsimp only at hSw); first | (go_simp; done) | (go_simp; with_reducible rfl))
    try simp only [Act.put, List.setIfInBounds_toArray, List.set_cons_zero, List.set_cons_succ]
    refine wpAnyH_take (i := 9) (oi := { dst := some 18, op := Op.move (Operand.tmp 17), type := 4, pos := "law.go:20", after := #[{ on := 8, ground := Ground.data }, { on := 7, ground := Ground.chain }, { on := 7, ground := Ground.guard }], guard := some (7, true) }) (v := ?_) rfl (by kernel_rfl) (by kernel_rfl) (by kernel_rfl) (fun _ _ _ h => h) (Or.inl ⟨rfl, ?_⟩) (by assumption) ?_
    rotate_left
    · (intro w hSw; (try dsimp only at hSw); first | (go_simp; done) | (go_simp; with_reducible rfl))
    try simp only [Act.put, List.setIfInBounds_toArray, List.set_cons_zero, List.set_cons_succ]
    refine wpAnyH_take (i := 10) (oi := { dst := some 19, op := Op.move (Operand.tmp 4), type := 26, pos := "law.go:20", after := #[{ on := 9, ground := Ground.guard }], guard := some (9, false) }) (v := undef) rfl (by kernel_rfl) (by kernel_rfl) (by kernel_rfl) (fun _ _ _ h => h) (Or.inr ⟨rfl, rfl⟩) (by assumption) ?_
    try simp only [Act.put, List.setIfInBounds_toArray, List.set_cons_zero, List.set_cons_succ]
    refine wpAnyH_take (i := 11) (oi := { dst := some 20, op := Op.binOp BinOp.eql 26 (Operand.tmp 19) (Operand.const (Value.int IntKind.i64 1)) 26, type := 4, pos := "law.go:20", after := #[{ on := 10, ground := Ground.data }, { on := 9, ground := Ground.guard }], guard := some (9, false) }) (v := undef) rfl (by kernel_rfl) (by kernel_rfl) (by kernel_rfl) (fun _ _ _ h => h) (Or.inr ⟨rfl, rfl⟩) (by assumption) ?_
    try simp only [Act.put, List.setIfInBounds_toArray, List.set_cons_zero, List.set_cons_succ]
    refine wpAnyH_take (i := 12) (oi := { dst := some 21, op := Op.pick (Operand.tmp 18) (Operand.const (Value.bool true)) (Operand.tmp 20), type := 4, pos := "law.go:20", after := #[{ on := 9, ground := Ground.data }, { on := 11, ground := Ground.data }, { on := 7, ground := Ground.guard }], guard := some (7, true) }) (v := ?_) rfl (by kernel_rfl) (by kernel_rfl) (by kernel_rfl) (fun _ _ _ h => h) (Or.inl ⟨rfl, ?_⟩) (by assumption) ?_
    rotate_left
    · (intro w hSw; (try dsimp only at hSw); first | (go_simp; done) | (go_simp; with_reducible rfl))
    try simp only [Act.put, List.setIfInBounds_toArray, List.set_cons_zero, List.set_cons_succ]
    refine wpAnyH_take (i := 13) (oi := { dst := some 22, op := Op.pick (Operand.tmp 16) (Operand.tmp 21) (Operand.const (Value.bool false)), type := 4, pos := "law.go:20", after := #[{ on := 7, ground := Ground.data }, { on := 12, ground := Ground.data }], guard := none }) (v := ?_) rfl (by kernel_rfl) (by kernel_rfl) (by kernel_rfl) (fun _ _ _ h => h) (Or.inl ⟨rfl, ?_⟩) (by assumption) ?_
    rotate_left
    · (intro w hSw; (try dsimp only at hSw); first | (go_simp; done) | (go_simp; with_reducible rfl))
    try simp only [Act.put, List.setIfInBounds_toArray, List.set_cons_zero, List.set_cons_succ]
    refine wpAnyH_take (i := 14) (oi := { dst := some 23, op := Op.move (Operand.tmp 22), type := 4, pos := "law.go:20", after := #[{ on := 13, ground := Ground.data }, { on := 9, ground := Ground.chain }], guard := none }) (v := ?_) rfl (by kernel_rfl) (by kernel_rfl) (by kernel_rfl) (fun _ _ _ h => h) (Or.inl ⟨rfl, ?_⟩) (by assumption) ?_
    rotate_left
    · (intro w hSw; (try dsimp only at hSw); first | (go_simp; done) | (go_simp; with_reducible rfl))
    try simp only [Act.put, List.setIfInBounds_toArray, List.set_cons_zero, List.set_cons_succ]
    refine wpAnyH_take (i := 15) (oi := { dst := some 24, op := Op.load 24 (Operand.tmp 1), type := 24, pos := "law.go:20", after := #[{ on := 14, ground := Ground.guard }], guard := some (14, true) }) (v := ?_) rfl (by kernel_rfl) (by kernel_rfl) (by kernel_rfl) (fun _ _ _ h => h) (Or.inl ⟨rfl, ?_⟩) (by assumption) ?_
    rotate_left
    · (intro w hSw; (try dsimp only at hSw); first | (go_simp; done) | (go_simp; with_reducible rfl))
    try simp only [Act.put, List.setIfInBounds_toArray, List.set_cons_zero, List.set_cons_succ]
    refine wpAnyH_take (i := 17) (oi := { dst := some 26, op := Op.move (Operand.tmp 3), type := 4, pos := "law.go:20", after := #[{ on := 14, ground := Ground.guard }], guard := some (14, true) }) (v := ?_) rfl (by kernel_rfl) (by kernel_rfl) (by kernel_rfl) (fun _ _ _ h => h) (Or.inl ⟨rfl, ?_⟩) (by assumption) ?_
    rotate_left
    · (intro w hSw; (try dsimp only at hSw); first | (go_simp; done) | (go_simp; with_reducible rfl))
    try simp only [Act.put, List.setIfInBounds_toArray, List.set_cons_zero, List.set_cons_succ]
    refine wpAnyH_ready (rs := [16]) (by kernel_rfl) (by simp) ?_
    refine AllReadyH.cons (o := { dst := some 25, op := Op.call { callee := Callee.value (Operand.func 9), args := #[Operand.tmp 24], argTypes := #[24] }, type := 4, pos := "law.go:20", after := #[{ on := 15, ground := Ground.data }, { on := 14, ground := Ground.chain }, { on := 14, ground := Ground.guard }], guard := some (14, true) }) rfl (fun K hK => ?_) AllReadyH.nil
    go_simp
    refine (hd.out _).mono ?_; rintro e w2 ⟨rfl, hb2⟩
    go_wp2_with fail
    refine hK.out _ _ ?_ (fun hHeld => ?_)
    · (try dsimp only)
      ((try dsimp only at *); go_split_ands; refine ⟨?_, ?_, ?_, ?_, ?_, ?_, ?_⟩ <;> (first | with_reducible assumption | with_reducible exact keep_b hb2 (by with_reducible assumption) | with_reducible exact keep_drew (by with_reducible assumption) | with_reducible exact keep_b hb2 (keep_drew (by with_reducible assumption)) | with_reducible exact below_s (by with_reducible assumption) hb2 | with_reducible exact below_s (by with_reducible exact Below.drew (by with_reducible assumption)) hb2 | with_reducible exact Below.drew (by with_reducible assumption)))
    clear hK
    try simp only [Act.put, List.setIfInBounds_toArray, List.set_cons_zero, List.set_cons_succ]
    refine wpAnyH_take (i := 18) (oi := { dst := some 27, op := Op.move (Operand.tmp 26), type := 4, pos := "law.go:20", after := #[{ on := 17, ground := Ground.data }, { on := 16, ground := Ground.chain }, { on := 14, ground := Ground.guard }], guard := some (14, true) }) (v := ?_) rfl (by kernel_rfl) (by kernel_rfl) (by kernel_rfl) (fun _ _ _ h => h) (Or.inl ⟨rfl, ?_⟩) (by assumption) ?_
    rotate_left
    · (intro w hSw; (try dsimp only at hSw); first | (go_simp; done) | (go_simp; with_reducible rfl))
    try simp only [Act.put, List.setIfInBounds_toArray, List.set_cons_zero, List.set_cons_succ]
    refine wpAnyH_take (i := 19) (oi := { dst := some 28, op := Op.fieldAddr 24 (Operand.tmp 1) 0, type := 0, pos := "law.go:20", after := #[{ on := 18, ground := Ground.guard }], guard := some (18, true) }) (v := ?_) rfl (by kernel_rfl) (by kernel_rfl) (by kernel_rfl) (fun _ _ _ h => h) (Or.inl ⟨rfl, ?_⟩) (by assumption) ?_
    rotate_left
    · (intro w hSw; (try dsimp only at hSw); first | (go_simp; done) | (go_simp; with_reducible rfl))
    try simp only [Act.put, List.setIfInBounds_toArray, List.set_cons_zero, List.set_cons_succ]
    refine wpAnyH_take (i := 20) (oi := { dst := some 29, op := Op.load 3 (Operand.tmp 28), type := 3, pos := "law.go:20", after := #[{ on := 19, ground := Ground.data }, { on := 18, ground := Ground.guard }], guard := some (18, true) }) (v := ?_) rfl (by kernel_rfl) (by kernel_rfl) (by kernel_rfl) (fun _ _ _ h => h) (Or.inl ⟨rfl, ?_⟩) (by assumption) ?_
    rotate_left
    · (intro w hSw; (try dsimp only at hSw); first | (go_simp; done) | (go_simp; with_reducible rfl))
    try simp only [Act.put, List.setIfInBounds_toArray, List.set_cons_zero, List.set_cons_succ]
    refine wpAnyH_take (i := 21) (oi := { dst := some 30, op := Op.binOp BinOp.leq 3 (Operand.tmp 29) (Operand.const (Value.int IntKind.i64 3)) 3, type := 4, pos := "law.go:20", after := #[{ on := 20, ground := Ground.data }, { on := 18, ground := Ground.guard }], guard := some (18, true) }) (v := ?_) rfl (by kernel_rfl) (by kernel_rfl) (by kernel_rfl) (fun _ _ _ h => h) (Or.inl ⟨rfl, ?_⟩) (by assumption) ?_
    rotate_left
    · (intro w hSw; (try dsimp only at hSw); first | (go_simp; done) | (go_simp; with_reducible rfl))
    try simp only [Act.put, List.setIfInBounds_toArray, List.set_cons_zero, List.set_cons_succ]
    refine wpAnyH_take (i := 22) (oi := { dst := some 31, op := Op.pick (Operand.tmp 27) (Operand.tmp 30) (Operand.const (Value.bool false)), type := 4, pos := "law.go:20", after := #[{ on := 18, ground := Ground.data }, { on := 21, ground := Ground.data }, { on := 14, ground := Ground.guard }], guard := some (14, true) }) (v := ?_) rfl (by kernel_rfl) (by kernel_rfl) (by kernel_rfl) (fun _ _ _ h => h) (Or.inl ⟨rfl, ?_⟩) (by assumption) ?_
    rotate_left
    · (intro w hSw; (try dsimp only at hSw); first | (go_simp; done) | (go_simp; with_reducible rfl))
    try simp only [Act.put, List.setIfInBounds_toArray, List.set_cons_zero, List.set_cons_succ]
    refine wpAnyH_take (i := 23) (oi := { dst := some 32, op := Op.binOp BinOp.eql 4 (Operand.tmp 25) (Operand.tmp 31) 4, type := 4, pos := "law.go:20", after := #[{ on := 16, ground := Ground.data }, { on := 22, ground := Ground.data }, { on := 14, ground := Ground.guard }], guard := some (14, true) }) (v := ?_) rfl (by kernel_rfl) (by kernel_rfl) (by kernel_rfl) (fun _ _ _ h => h) (Or.inl ⟨rfl, ?_⟩) (by assumption) ?_
    rotate_left
    · (intro w hSw; (try dsimp only at hSw); first | (go_simp; done) | (go_simp; with_reducible rfl))
    try simp only [Act.put, List.setIfInBounds_toArray, List.set_cons_zero, List.set_cons_succ]
    refine wpAnyH_take (i := 24) (oi := { dst := some 33, op := Op.pick (Operand.tmp 23) (Operand.tmp 32) (Operand.const (Value.bool false)), type := 4, pos := "law.go:20", after := #[{ on := 14, ground := Ground.data }, { on := 23, ground := Ground.data }], guard := none }) (v := ?_) rfl (by kernel_rfl) (by kernel_rfl) (by kernel_rfl) (fun _ _ _ h => h) (Or.inl ⟨rfl, ?_⟩) (by assumption) ?_
    rotate_left
    · (intro w hSw; (try dsimp only at hSw); first | (go_simp; done) | (go_simp; with_reducible rfl))
    try simp only [Act.put, List.setIfInBounds_toArray, List.set_cons_zero, List.set_cons_succ]
    refine wpAnyH_take (i := 25) (oi := { dst := some 34, op := Op.move (Operand.tmp 33), type := 4, pos := "law.go:20", after := #[{ on := 24, ground := Ground.data }, { on := 18, ground := Ground.chain }], guard := none }) (v := ?_) rfl (by kernel_rfl) (by kernel_rfl) (by kernel_rfl) (fun _ _ _ h => h) (Or.inl ⟨rfl, ?_⟩) (by assumption) ?_
    rotate_left
    · (intro w hSw; (try dsimp only at hSw); first | (go_simp; done) | (go_simp; with_reducible rfl))
    try simp only [Act.put, List.setIfInBounds_toArray, List.set_cons_zero, List.set_cons_succ]
    refine wpAnyH_take (i := 26) (oi := { dst := some 35, op := Op.load 24 (Operand.tmp 1), type := 24, pos := "law.go:20", after := #[{ on := 25, ground := Ground.guard }], guard := some (25, true) }) (v := ?_) rfl (by kernel_rfl) (by kernel_rfl) (by kernel_rfl) (fun _ _ _ h => h) (Or.inl ⟨rfl, ?_⟩) (by assumption) ?_
    rotate_left
    · (intro w hSw; (try dsimp only at hSw); first | (go_simp; done) | (go_simp; with_reducible rfl))
    try simp only [Act.put, List.setIfInBounds_toArray, List.set_cons_zero, List.set_cons_succ]
    refine wpAnyH_take (i := 28) (oi := { dst := some 37, op := Op.load 24 (Operand.tmp 1), type := 24, pos := "law.go:20", after := #[{ on := 25, ground := Ground.guard }], guard := some (25, true) }) (v := ?_) rfl (by kernel_rfl) (by kernel_rfl) (by kernel_rfl) (fun _ _ _ h => h) (Or.inl ⟨rfl, ?_⟩) (by assumption) ?_
    rotate_left
    · (intro w hSw; (try dsimp only at hSw); first | (go_simp; done) | (go_simp; with_reducible rfl))
    try simp only [Act.put, List.setIfInBounds_toArray, List.set_cons_zero, List.set_cons_succ]
    refine wpAnyH_ready (rs := [27]) (by kernel_rfl) (by simp) ?_
    refine AllReadyH.cons (o := { dst := some 36, op := Op.call { callee := Callee.value (Operand.func 10), args := #[Operand.tmp 35], argTypes := #[24] }, type := 3, pos := "law.go:20", after := #[{ on := 26, ground := Ground.data }, { on := 25, ground := Ground.chain }, { on := 25, ground := Ground.guard }], guard := some (25, true) }) rfl (fun K hK => ?_) AllReadyH.nil
    go_simp
    refine (ha.out _).mono ?_; rintro e w2 ⟨rfl, hb2⟩
    go_wp2_with fail
    refine hK.out _ _ ?_ (fun hHeld => ?_)
    · (try dsimp only)
      ((try dsimp only at *); go_split_ands; refine ⟨?_, ?_, ?_, ?_, ?_, ?_, ?_⟩ <;> (first | with_reducible assumption | with_reducible exact keep_b hb2 (by with_reducible assumption) | with_reducible exact keep_drew (by with_reducible assumption) | with_reducible exact keep_b hb2 (keep_drew (by with_reducible assumption)) | with_reducible exact below_s (by with_reducible assumption) hb2 | with_reducible exact below_s (by with_reducible exact Below.drew (by with_reducible assumption)) hb2 | with_reducible exact Below.drew (by with_reducible assumption)))
    clear hK
    try simp only [Act.put, List.setIfInBounds_toArray, List.set_cons_zero, List.set_cons_succ]
    refine wpAnyH_ready (rs := [29]) (by kernel_rfl) (by simp) ?_
    refine AllReadyH.cons (o := { dst := some 38, op := Op.call { callee := Callee.value (Operand.func 11), args := #[Operand.tmp 37], argTypes := #[24] }, type := 3, pos := "law.go:20", after := #[{ on := 28, ground := Ground.data }, { on := 27, ground := Ground.chain }, { on := 25, ground := Ground.guard }], guard := some (25, true) }) rfl (fun K hK => ?_) AllReadyH.nil
    go_simp
    refine (hr.out _).mono ?_; rintro e w2 ⟨rfl, hb2⟩
    go_wp2_with fail
    refine hK.out _ _ ?_ (fun hHeld => ?_)
    · (try dsimp only)
      ((try dsimp only at *); go_split_ands; refine ⟨?_, ?_, ?_, ?_, ?_, ?_, ?_⟩ <;> (first | with_reducible assumption | with_reducible exact keep_b hb2 (by with_reducible assumption) | with_reducible exact keep_drew (by with_reducible assumption) | with_reducible exact keep_b hb2 (keep_drew (by with_reducible assumption)) | with_reducible exact below_s (by with_reducible assumption) hb2 | with_reducible exact below_s (by with_reducible exact Below.drew (by with_reducible assumption)) hb2 | with_reducible exact Below.drew (by with_reducible assumption)))
    clear hK
    try simp only [Act.put, List.setIfInBounds_toArray, List.set_cons_zero, List.set_cons_succ]
    refine wpAnyH_take (i := 30) (oi := { dst := some 39, op := Op.binOp BinOp.eql 3 (Operand.tmp 36) (Operand.tmp 38) 3, type := 4, pos := "law.go:20", after := #[{ on := 27, ground := Ground.data }, { on := 29, ground := Ground.data }, { on := 25, ground := Ground.guard }], guard := some (25, true) }) (v := ?_) rfl (by kernel_rfl) (by kernel_rfl) (by kernel_rfl) (fun _ _ _ h => h) (Or.inl ⟨rfl, ?_⟩) (by assumption) ?_
    rotate_left
    · (intro w hSw; (try dsimp only at hSw); first | (go_simp; done) | (go_simp; with_reducible rfl))
    try simp only [Act.put, List.setIfInBounds_toArray, List.set_cons_zero, List.set_cons_succ]
    refine wpAnyH_take (i := 31) (oi := { dst := some 40, op := Op.pick (Operand.tmp 34) (Operand.tmp 39) (Operand.const (Value.bool false)), type := 4, pos := "law.go:20", after := #[{ on := 25, ground := Ground.data }, { on := 30, ground := Ground.data }], guard := none }) (v := ?_) rfl (by kernel_rfl) (by kernel_rfl) (by kernel_rfl) (fun _ _ _ h => h) (Or.inl ⟨rfl, ?_⟩) (by assumption) ?_
    rotate_left
    · (intro w hSw; (try dsimp only at hSw); first | (go_simp; done) | (go_simp; with_reducible rfl))
    try simp only [Act.put, List.setIfInBounds_toArray, List.set_cons_zero, List.set_cons_succ]
    refine wpAnyH_take (i := 32) (oi := { dst := some 2, op := Op.assign (Operand.tmp 40), type := 4, pos := "law.go:20", after := #[{ on := 31, ground := Ground.data }, { on := 29, ground := Ground.chain }, { on := 0, ground := Ground.phase }, { on := 1, ground := Ground.phase }, { on := 2, ground := Ground.phase }, { on := 3, ground := Ground.phase }, { on := 4, ground := Ground.phase }, { on := 5, ground := Ground.phase }, { on := 6, ground := Ground.phase }, { on := 7, ground := Ground.phase }, { on := 8, ground := Ground.phase }, { on := 9, ground := Ground.phase }, { on := 10, ground := Ground.phase }, { on := 11, ground := Ground.phase }, { on := 12, ground := Ground.phase }, { on := 13, ground := Ground.phase }, { on := 14, ground := Ground.phase }, { on := 15, ground := Ground.phase }, { on := 16, ground := Ground.phase }, { on := 17, ground := Ground.phase }, { on := 18, ground := Ground.phase }, { on := 19, ground := Ground.phase }, { on := 20, ground := Ground.phase }, { on := 21, ground := Ground.phase }, { on := 22, ground := Ground.phase }, { on := 23, ground := Ground.phase }, { on := 24, ground := Ground.phase }, { on := 25, ground := Ground.phase }, { on := 26, ground := Ground.phase }, { on := 27, ground := Ground.phase }, { on := 28, ground := Ground.phase }, { on := 29, ground := Ground.phase }, { on := 30, ground := Ground.phase }, { on := 31, ground := Ground.phase }], guard := none }) (v := ?_) rfl (by kernel_rfl) (by kernel_rfl) (by kernel_rfl) (fun _ _ _ h => h) (Or.inl ⟨rfl, ?_⟩) (by assumption) ?_
    rotate_left
    · (intro w hSw; (try dsimp only at hSw); first | (go_simp; done) | (go_simp; with_reducible rfl))
    try simp only [Act.put, List.setIfInBounds_toArray, List.set_cons_zero, List.set_cons_succ]
    refine wpAnyH_done (by kernel_rfl) ?_ _
    refine NoPanic.normal ?_
    go_wp2_with fail
    go_ret
    exact ⟨rfl, by go_split_ands; assumption⟩
  | false =>
    have hc := fun w => opCheck_no K T N M H s w hs h
    rw [h] at hR hd
    simp only [Bool.false_and] at hd
    replace hR := Lib.hid hR
    replace hd := Lib.hid hd
    replace hc := Lib.hid hc
    clear h
    go_enter Try.func3, Try.ntmps3
    go_wp2_with fail
    refine (hR.out _).mono ?_; rintro e w1 ⟨rfl, hb1⟩
    have hk := (below_reads hb1).1
    simp only [World.size_alloc] at hk
    go_wp2_with fail
    refine (hc.out _).mono ?_; rintro e w2 ⟨rfl, hb2⟩
    have hk2 := (below_reads (below_s hb1 hb2)).1
    simp only [World.size_alloc] at hk2
    clear hk
    go_wp2_with fail
    refine wp_name (fun W => W.cell? ⟨w.heap.size, 0, none⟩ = some (.int .i64 K) ∧ W.cell? ⟨w.heap.size, 1, none⟩ = some (.int .i64 T) ∧ W.cell? ⟨w.heap.size, 2, none⟩ = some (.int .i64 N) ∧ W.cell? ⟨w.heap.size, 3, none⟩ = some (.int .i64 M) ∧ W.cell? ⟨w.heap.size, 4, none⟩ = some (.int .u64 H) ∧ W.cell? ⟨w.heap.size, 5, none⟩ = some (.string s) ∧ Below w.heap.size w W) ⟨?_, ?_, ?_, ?_, ?_, ?_, ?_⟩ ?_
    iterate 6 exact (hk2 _ _ (by omega)).trans (new_cell rfl)
    · exact below_s (below_s (below_alloc (Nat.le_refl _) (Below.refl _ _)) hb1) hb2
    rintro W1 ⟨z0, z1, z2, z3, z4, z5, zb⟩
    clear hk2 hb1 hb2
    refine wp_region_noPanic ?_
    refine wp_region_held_drew (S := (fun W => W.cell? ⟨w.heap.size, 0, none⟩ = some (.int .i64 K) ∧ W.cell? ⟨w.heap.size, 1, none⟩ = some (.int .i64 T) ∧ W.cell? ⟨w.heap.size, 2, none⟩ = some (.int .i64 N) ∧ W.cell? ⟨w.heap.size, 3, none⟩ = some (.int .i64 M) ∧ W.cell? ⟨w.heap.size, 4, none⟩ = some (.int .u64 H) ∧ W.cell? ⟨w.heap.size, 5, none⟩ = some (.string s) ∧ Below w.heap.size w W)) (by kernel_rfl) ?_ (fun hHeld => ?_)
    · (try dsimp only)
      ((try dsimp only at *); go_split_ands; refine ⟨?_, ?_, ?_, ?_, ?_, ?_, ?_⟩ <;> (first | with_reducible assumption | with_reducible exact keep_b hb2 (by with_reducible assumption) | with_reducible exact keep_drew (by with_reducible assumption) | with_reducible exact keep_b hb2 (keep_drew (by with_reducible assumption)) | with_reducible exact below_s (by with_reducible assumption) hb2 | with_reducible exact below_s (by with_reducible exact Below.drew (by with_reducible assumption)) hb2 | with_reducible exact Below.drew (by with_reducible assumption)))
    refine wpAnyH_ready (rs := [0]) (by kernel_rfl) (by simp) ?_
    refine AllReadyH.cons (o := { dst := some 9, op := Op.call { callee := Callee.value (Operand.func 8), args := #[], argTypes := #[] }, type := 4, pos := "law.go:20", after := #[], guard := none }) rfl (fun K hK => ?_) AllReadyH.nil
    go_simp
    refine (awake_any _).mono ?_; rintro e w2 ⟨rfl, hb2⟩
    go_wp2_with fail
    refine hK.out _ _ ?_ (fun hHeld => ?_)
    · (try dsimp only)
      ((try dsimp only at *); go_split_ands; refine ⟨?_, ?_, ?_, ?_, ?_, ?_, ?_⟩ <;> (first | with_reducible assumption | with_reducible exact keep_b hb2 (by with_reducible assumption) | with_reducible exact keep_drew (by with_reducible assumption) | with_reducible exact keep_b hb2 (keep_drew (by with_reducible assumption)) | with_reducible exact below_s (by with_reducible assumption) hb2 | with_reducible exact below_s (by with_reducible exact Below.drew (by with_reducible assumption)) hb2 | with_reducible exact Below.drew (by with_reducible assumption)))
    clear hK
    try simp only [Act.put, List.setIfInBounds_toArray, List.set_cons_zero, List.set_cons_succ]
    refine wpAnyH_take (i := 1) (oi := { dst := some 10, op := Op.move (Operand.tmp 9), type := 4, pos := "law.go:20", after := #[{ on := 0, ground := Ground.data }, { on := 0, ground := Ground.chain }], guard := none }) (v := ?_) rfl (by kernel_rfl) (by kernel_rfl) (by kernel_rfl) (fun _ _ _ h => h) (Or.inl ⟨rfl, ?_⟩) (by assumption) ?_
    rotate_left
    · (intro w hSw; (try dsimp only at hSw); first | (go_simp; done) | (go_simp; with_reducible rfl))
    try simp only [Act.put, List.setIfInBounds_toArray, List.set_cons_zero, List.set_cons_succ]
    refine wpAnyH_take (i := 2) (oi := { dst := some 11, op := Op.move (Operand.tmp 4), type := 26, pos := "law.go:20", after := #[{ on := 1, ground := Ground.guard }], guard := some (1, true) }) (v := ?_) rfl (by kernel_rfl) (by kernel_rfl) (by kernel_rfl) (fun _ _ _ h => h) (Or.inl ⟨rfl, ?_⟩) (by assumption) ?_
    rotate_left
    · (intro w hSw; (try dsimp only at hSw); first | (go_simp; done) | (go_simp; with_reducible rfl))
    try simp only [Act.put, List.setIfInBounds_toArray, List.set_cons_zero, List.set_cons_succ]
    refine wpAnyH_take (i := 3) (oi := { dst := some 12, op := Op.binOp BinOp.eql 26 (Operand.tmp 11) (Operand.const (Value.int IntKind.i64 0)) 26, type := 4, pos := "law.go:20", after := #[{ on := 2, ground := Ground.data }, { on := 1, ground := Ground.guard }], guard := some (1, true) }) (v := ?_) rfl (by kernel_rfl) (by kernel_rfl) (by kernel_rfl) (fun _ _ _ h => h) (Or.inl ⟨rfl, ?_⟩) (by assumption) ?_
    rotate_left
    · (intro w hSw; (try dsimp only at hSw); first | (go_simp; done) | (go_simp; with_reducible rfl))
    try simp only [Act.put, List.setIfInBounds_toArray, List.set_cons_zero, List.set_cons_succ]
    refine wpAnyH_take (i := 4) (oi := { dst := some 13, op := Op.move (Operand.tmp 3), type := 4, pos := "law.go:20", after := #[{ on := 1, ground := Ground.guard }], guard := some (1, true) }) (v := ?_) rfl (by kernel_rfl) (by kernel_rfl) (by kernel_rfl) (fun _ _ _ h => h) (Or.inl ⟨rfl, ?_⟩) (by assumption) ?_
    rotate_left
    · (intro w hSw; (try dsimp only at hSw); first | (go_simp; done) | (go_simp; with_reducible rfl))
    try simp only [Act.put, List.setIfInBounds_toArray, List.set_cons_zero, List.set_cons_succ]
    refine wpAnyH_take (i := 5) (oi := { dst := some 14, op := Op.binOp BinOp.eql 4 (Operand.tmp 12) (Operand.tmp 13) 4, type := 4, pos := "law.go:20", after := #[{ on := 3, ground := Ground.data }, { on := 4, ground := Ground.data }, { on := 1, ground := Ground.guard }], guard := some (1, true) }) (v := ?_) rfl (by kernel_rfl) (by kernel_rfl) (by kernel_rfl) (fun _ _ _ h => h) (Or.inl ⟨rfl, ?_⟩) (by assumption) ?_
    rotate_left
    · (intro w hSw; (try dsimp only at hSw); first | (go_simp; done) | (go_simp; with_reducible rfl))
    try simp only [Act.put, List.setIfInBounds_toArray, List.set_cons_zero, List.set_cons_succ]
    refine wpAnyH_take (i := 6) (oi := { dst := some 15, op := Op.pick (Operand.tmp 10) (Operand.tmp 14) (Operand.const (Value.bool false)), type := 4, pos := "law.go:20", after := #[{ on := 1, ground := Ground.data }, { on := 5, ground := Ground.data }], guard := none }) (v := ?_) rfl (by kernel_rfl) (by kernel_rfl) (by kernel_rfl) (fun _ _ _ h => h) (Or.inl ⟨rfl, ?_⟩) (by assumption) ?_
    rotate_left
    · (intro w hSw; (try dsimp only at hSw); first | (go_simp; done) | (go_simp; with_reducible rfl))
    try simp only [Act.put, List.setIfInBounds_toArray, List.set_cons_zero, List.set_cons_succ]
    refine wpAnyH_take (i := 7) (oi := { dst := some 16, op := Op.move (Operand.tmp 15), type := 4, pos := "law.go:20", after := #[{ on := 6, ground := Ground.data }, { on := 1, ground := Ground.chain }], guard := none }) (v := ?_) rfl (by kernel_rfl) (by kernel_rfl) (by kernel_rfl) (fun _ _ _ h => h) (Or.inl ⟨rfl, ?_⟩) (by assumption) ?_
    rotate_left
    · (intro w hSw; (try dsimp only at hSw); first | (go_simp; done) | (go_simp; with_reducible rfl))
    try simp only [Act.put, List.setIfInBounds_toArray, List.set_cons_zero, List.set_cons_succ]
    refine wpAnyH_take (i := 8) (oi := { dst := some 17, op := Op.move (Operand.tmp 3), type := 4, pos := "law.go:20", after := #[{ on := 7, ground := Ground.guard }], guard := some (7, true) }) (v := ?_) rfl (by kernel_rfl) (by kernel_rfl) (by kernel_rfl) (fun _ _ _ h => h) (Or.inl ⟨rfl, ?_⟩) (by assumption) ?_
    rotate_left
    · (intro w hSw; (try dsimp only at hSw); first | (go_simp; done) | (go_simp; with_reducible rfl))
    try simp only [Act.put, List.setIfInBounds_toArray, List.set_cons_zero, List.set_cons_succ]
    refine wpAnyH_take (i := 9) (oi := { dst := some 18, op := Op.move (Operand.tmp 17), type := 4, pos := "law.go:20", after := #[{ on := 8, ground := Ground.data }, { on := 7, ground := Ground.chain }, { on := 7, ground := Ground.guard }], guard := some (7, true) }) (v := ?_) rfl (by kernel_rfl) (by kernel_rfl) (by kernel_rfl) (fun _ _ _ h => h) (Or.inl ⟨rfl, ?_⟩) (by assumption) ?_
    rotate_left
    · (intro w hSw; (try dsimp only at hSw); first | (go_simp; done) | (go_simp; with_reducible rfl))
    try simp only [Act.put, List.setIfInBounds_toArray, List.set_cons_zero, List.set_cons_succ]
    refine wpAnyH_take (i := 10) (oi := { dst := some 19, op := Op.move (Operand.tmp 4), type := 26, pos := "law.go:20", after := #[{ on := 9, ground := Ground.guard }], guard := some (9, false) }) (v := ?_) rfl (by kernel_rfl) (by kernel_rfl) (by kernel_rfl) (fun _ _ _ h => h) (Or.inl ⟨rfl, ?_⟩) (by assumption) ?_
    rotate_left
    · (intro w hSw; (try dsimp only at hSw); first | (go_simp; done) | (go_simp; with_reducible rfl))
    try simp only [Act.put, List.setIfInBounds_toArray, List.set_cons_zero, List.set_cons_succ]
    refine wpAnyH_take (i := 11) (oi := { dst := some 20, op := Op.binOp BinOp.eql 26 (Operand.tmp 19) (Operand.const (Value.int IntKind.i64 1)) 26, type := 4, pos := "law.go:20", after := #[{ on := 10, ground := Ground.data }, { on := 9, ground := Ground.guard }], guard := some (9, false) }) (v := ?_) rfl (by kernel_rfl) (by kernel_rfl) (by kernel_rfl) (fun _ _ _ h => h) (Or.inl ⟨rfl, ?_⟩) (by assumption) ?_
    rotate_left
    · (intro w hSw; (try dsimp only at hSw); first | (go_simp; done) | (go_simp; with_reducible rfl))
    try simp only [Act.put, List.setIfInBounds_toArray, List.set_cons_zero, List.set_cons_succ]
    refine wpAnyH_take (i := 12) (oi := { dst := some 21, op := Op.pick (Operand.tmp 18) (Operand.const (Value.bool true)) (Operand.tmp 20), type := 4, pos := "law.go:20", after := #[{ on := 9, ground := Ground.data }, { on := 11, ground := Ground.data }, { on := 7, ground := Ground.guard }], guard := some (7, true) }) (v := ?_) rfl (by kernel_rfl) (by kernel_rfl) (by kernel_rfl) (fun _ _ _ h => h) (Or.inl ⟨rfl, ?_⟩) (by assumption) ?_
    rotate_left
    · (intro w hSw; (try dsimp only at hSw); first | (go_simp; done) | (go_simp; with_reducible rfl))
    try simp only [Act.put, List.setIfInBounds_toArray, List.set_cons_zero, List.set_cons_succ]
    refine wpAnyH_take (i := 13) (oi := { dst := some 22, op := Op.pick (Operand.tmp 16) (Operand.tmp 21) (Operand.const (Value.bool false)), type := 4, pos := "law.go:20", after := #[{ on := 7, ground := Ground.data }, { on := 12, ground := Ground.data }], guard := none }) (v := ?_) rfl (by kernel_rfl) (by kernel_rfl) (by kernel_rfl) (fun _ _ _ h => h) (Or.inl ⟨rfl, ?_⟩) (by assumption) ?_
    rotate_left
    · (intro w hSw; (try dsimp only at hSw); first | (go_simp; done) | (go_simp; with_reducible rfl))
    try simp only [Act.put, List.setIfInBounds_toArray, List.set_cons_zero, List.set_cons_succ]
    refine wpAnyH_take (i := 14) (oi := { dst := some 23, op := Op.move (Operand.tmp 22), type := 4, pos := "law.go:20", after := #[{ on := 13, ground := Ground.data }, { on := 9, ground := Ground.chain }], guard := none }) (v := ?_) rfl (by kernel_rfl) (by kernel_rfl) (by kernel_rfl) (fun _ _ _ h => h) (Or.inl ⟨rfl, ?_⟩) (by assumption) ?_
    rotate_left
    · (intro w hSw; (try dsimp only at hSw); first | (go_simp; done) | (go_simp; with_reducible rfl))
    try simp only [Act.put, List.setIfInBounds_toArray, List.set_cons_zero, List.set_cons_succ]
    refine wpAnyH_take (i := 15) (oi := { dst := some 24, op := Op.load 24 (Operand.tmp 1), type := 24, pos := "law.go:20", after := #[{ on := 14, ground := Ground.guard }], guard := some (14, true) }) (v := ?_) rfl (by kernel_rfl) (by kernel_rfl) (by kernel_rfl) (fun _ _ _ h => h) (Or.inl ⟨rfl, ?_⟩) (by assumption) ?_
    rotate_left
    · (intro w hSw; (try dsimp only at hSw); first | (go_simp; done) | (go_simp; with_reducible rfl))
    try simp only [Act.put, List.setIfInBounds_toArray, List.set_cons_zero, List.set_cons_succ]
    refine wpAnyH_take (i := 17) (oi := { dst := some 26, op := Op.move (Operand.tmp 3), type := 4, pos := "law.go:20", after := #[{ on := 14, ground := Ground.guard }], guard := some (14, true) }) (v := ?_) rfl (by kernel_rfl) (by kernel_rfl) (by kernel_rfl) (fun _ _ _ h => h) (Or.inl ⟨rfl, ?_⟩) (by assumption) ?_
    rotate_left
    · (intro w hSw; (try dsimp only at hSw); first | (go_simp; done) | (go_simp; with_reducible rfl))
    try simp only [Act.put, List.setIfInBounds_toArray, List.set_cons_zero, List.set_cons_succ]
    refine wpAnyH_ready (rs := [16]) (by kernel_rfl) (by simp) ?_
    refine AllReadyH.cons (o := { dst := some 25, op := Op.call { callee := Callee.value (Operand.func 9), args := #[Operand.tmp 24], argTypes := #[24] }, type := 4, pos := "law.go:20", after := #[{ on := 15, ground := Ground.data }, { on := 14, ground := Ground.chain }, { on := 14, ground := Ground.guard }], guard := some (14, true) }) rfl (fun K hK => ?_) AllReadyH.nil
    go_simp
    refine (hd.out _).mono ?_; rintro e w2 ⟨rfl, hb2⟩
    go_wp2_with fail
    refine hK.out _ _ ?_ (fun hHeld => ?_)
    · (try dsimp only)
      ((try dsimp only at *); go_split_ands; refine ⟨?_, ?_, ?_, ?_, ?_, ?_, ?_⟩ <;> (first | with_reducible assumption | with_reducible exact keep_b hb2 (by with_reducible assumption) | with_reducible exact keep_drew (by with_reducible assumption) | with_reducible exact keep_b hb2 (keep_drew (by with_reducible assumption)) | with_reducible exact below_s (by with_reducible assumption) hb2 | with_reducible exact below_s (by with_reducible exact Below.drew (by with_reducible assumption)) hb2 | with_reducible exact Below.drew (by with_reducible assumption)))
    clear hK
    try simp only [Act.put, List.setIfInBounds_toArray, List.set_cons_zero, List.set_cons_succ]
    refine wpAnyH_take (i := 18) (oi := { dst := some 27, op := Op.move (Operand.tmp 26), type := 4, pos := "law.go:20", after := #[{ on := 17, ground := Ground.data }, { on := 16, ground := Ground.chain }, { on := 14, ground := Ground.guard }], guard := some (14, true) }) (v := ?_) rfl (by kernel_rfl) (by kernel_rfl) (by kernel_rfl) (fun _ _ _ h => h) (Or.inl ⟨rfl, ?_⟩) (by assumption) ?_
    rotate_left
    · (intro w hSw; (try dsimp only at hSw); first | (go_simp; done) | (go_simp; with_reducible rfl))
    try simp only [Act.put, List.setIfInBounds_toArray, List.set_cons_zero, List.set_cons_succ]
    refine wpAnyH_take (i := 19) (oi := { dst := some 28, op := Op.fieldAddr 24 (Operand.tmp 1) 0, type := 0, pos := "law.go:20", after := #[{ on := 18, ground := Ground.guard }], guard := some (18, true) }) (v := undef) rfl (by kernel_rfl) (by kernel_rfl) (by kernel_rfl) (fun _ _ _ h => h) (Or.inr ⟨rfl, rfl⟩) (by assumption) ?_
    try simp only [Act.put, List.setIfInBounds_toArray, List.set_cons_zero, List.set_cons_succ]
    refine wpAnyH_take (i := 20) (oi := { dst := some 29, op := Op.load 3 (Operand.tmp 28), type := 3, pos := "law.go:20", after := #[{ on := 19, ground := Ground.data }, { on := 18, ground := Ground.guard }], guard := some (18, true) }) (v := undef) rfl (by kernel_rfl) (by kernel_rfl) (by kernel_rfl) (fun _ _ _ h => h) (Or.inr ⟨rfl, rfl⟩) (by assumption) ?_
    try simp only [Act.put, List.setIfInBounds_toArray, List.set_cons_zero, List.set_cons_succ]
    refine wpAnyH_take (i := 21) (oi := { dst := some 30, op := Op.binOp BinOp.leq 3 (Operand.tmp 29) (Operand.const (Value.int IntKind.i64 3)) 3, type := 4, pos := "law.go:20", after := #[{ on := 20, ground := Ground.data }, { on := 18, ground := Ground.guard }], guard := some (18, true) }) (v := undef) rfl (by kernel_rfl) (by kernel_rfl) (by kernel_rfl) (fun _ _ _ h => h) (Or.inr ⟨rfl, rfl⟩) (by assumption) ?_
    try simp only [Act.put, List.setIfInBounds_toArray, List.set_cons_zero, List.set_cons_succ]
    refine wpAnyH_take (i := 22) (oi := { dst := some 31, op := Op.pick (Operand.tmp 27) (Operand.tmp 30) (Operand.const (Value.bool false)), type := 4, pos := "law.go:20", after := #[{ on := 18, ground := Ground.data }, { on := 21, ground := Ground.data }, { on := 14, ground := Ground.guard }], guard := some (14, true) }) (v := ?_) rfl (by kernel_rfl) (by kernel_rfl) (by kernel_rfl) (fun _ _ _ h => h) (Or.inl ⟨rfl, ?_⟩) (by assumption) ?_
    rotate_left
    · (intro w hSw; (try dsimp only at hSw); first | (go_simp; done) | (go_simp; with_reducible rfl))
    try simp only [Act.put, List.setIfInBounds_toArray, List.set_cons_zero, List.set_cons_succ]
    refine wpAnyH_take (i := 23) (oi := { dst := some 32, op := Op.binOp BinOp.eql 4 (Operand.tmp 25) (Operand.tmp 31) 4, type := 4, pos := "law.go:20", after := #[{ on := 16, ground := Ground.data }, { on := 22, ground := Ground.data }, { on := 14, ground := Ground.guard }], guard := some (14, true) }) (v := ?_) rfl (by kernel_rfl) (by kernel_rfl) (by kernel_rfl) (fun _ _ _ h => h) (Or.inl ⟨rfl, ?_⟩) (by assumption) ?_
    rotate_left
    · (intro w hSw; (try dsimp only at hSw); first | (go_simp; done) | (go_simp; with_reducible rfl))
    try simp only [Act.put, List.setIfInBounds_toArray, List.set_cons_zero, List.set_cons_succ]
    refine wpAnyH_take (i := 24) (oi := { dst := some 33, op := Op.pick (Operand.tmp 23) (Operand.tmp 32) (Operand.const (Value.bool false)), type := 4, pos := "law.go:20", after := #[{ on := 14, ground := Ground.data }, { on := 23, ground := Ground.data }], guard := none }) (v := ?_) rfl (by kernel_rfl) (by kernel_rfl) (by kernel_rfl) (fun _ _ _ h => h) (Or.inl ⟨rfl, ?_⟩) (by assumption) ?_
    rotate_left
    · (intro w hSw; (try dsimp only at hSw); first | (go_simp; done) | (go_simp; with_reducible rfl))
    try simp only [Act.put, List.setIfInBounds_toArray, List.set_cons_zero, List.set_cons_succ]
    refine wpAnyH_take (i := 25) (oi := { dst := some 34, op := Op.move (Operand.tmp 33), type := 4, pos := "law.go:20", after := #[{ on := 24, ground := Ground.data }, { on := 18, ground := Ground.chain }], guard := none }) (v := ?_) rfl (by kernel_rfl) (by kernel_rfl) (by kernel_rfl) (fun _ _ _ h => h) (Or.inl ⟨rfl, ?_⟩) (by assumption) ?_
    rotate_left
    · (intro w hSw; (try dsimp only at hSw); first | (go_simp; done) | (go_simp; with_reducible rfl))
    try simp only [Act.put, List.setIfInBounds_toArray, List.set_cons_zero, List.set_cons_succ]
    refine wpAnyH_take (i := 26) (oi := { dst := some 35, op := Op.load 24 (Operand.tmp 1), type := 24, pos := "law.go:20", after := #[{ on := 25, ground := Ground.guard }], guard := some (25, true) }) (v := ?_) rfl (by kernel_rfl) (by kernel_rfl) (by kernel_rfl) (fun _ _ _ h => h) (Or.inl ⟨rfl, ?_⟩) (by assumption) ?_
    rotate_left
    · (intro w hSw; (try dsimp only at hSw); first | (go_simp; done) | (go_simp; with_reducible rfl))
    try simp only [Act.put, List.setIfInBounds_toArray, List.set_cons_zero, List.set_cons_succ]
    refine wpAnyH_take (i := 28) (oi := { dst := some 37, op := Op.load 24 (Operand.tmp 1), type := 24, pos := "law.go:20", after := #[{ on := 25, ground := Ground.guard }], guard := some (25, true) }) (v := ?_) rfl (by kernel_rfl) (by kernel_rfl) (by kernel_rfl) (fun _ _ _ h => h) (Or.inl ⟨rfl, ?_⟩) (by assumption) ?_
    rotate_left
    · (intro w hSw; (try dsimp only at hSw); first | (go_simp; done) | (go_simp; with_reducible rfl))
    try simp only [Act.put, List.setIfInBounds_toArray, List.set_cons_zero, List.set_cons_succ]
    refine wpAnyH_ready (rs := [27]) (by kernel_rfl) (by simp) ?_
    refine AllReadyH.cons (o := { dst := some 36, op := Op.call { callee := Callee.value (Operand.func 10), args := #[Operand.tmp 35], argTypes := #[24] }, type := 3, pos := "law.go:20", after := #[{ on := 26, ground := Ground.data }, { on := 25, ground := Ground.chain }, { on := 25, ground := Ground.guard }], guard := some (25, true) }) rfl (fun K hK => ?_) AllReadyH.nil
    go_simp
    refine (ha.out _).mono ?_; rintro e w2 ⟨rfl, hb2⟩
    go_wp2_with fail
    refine hK.out _ _ ?_ (fun hHeld => ?_)
    · (try dsimp only)
      ((try dsimp only at *); go_split_ands; refine ⟨?_, ?_, ?_, ?_, ?_, ?_, ?_⟩ <;> (first | with_reducible assumption | with_reducible exact keep_b hb2 (by with_reducible assumption) | with_reducible exact keep_drew (by with_reducible assumption) | with_reducible exact keep_b hb2 (keep_drew (by with_reducible assumption)) | with_reducible exact below_s (by with_reducible assumption) hb2 | with_reducible exact below_s (by with_reducible exact Below.drew (by with_reducible assumption)) hb2 | with_reducible exact Below.drew (by with_reducible assumption)))
    clear hK
    try simp only [Act.put, List.setIfInBounds_toArray, List.set_cons_zero, List.set_cons_succ]
    refine wpAnyH_ready (rs := [29]) (by kernel_rfl) (by simp) ?_
    refine AllReadyH.cons (o := { dst := some 38, op := Op.call { callee := Callee.value (Operand.func 11), args := #[Operand.tmp 37], argTypes := #[24] }, type := 3, pos := "law.go:20", after := #[{ on := 28, ground := Ground.data }, { on := 27, ground := Ground.chain }, { on := 25, ground := Ground.guard }], guard := some (25, true) }) rfl (fun K hK => ?_) AllReadyH.nil
    go_simp
    refine (hr.out _).mono ?_; rintro e w2 ⟨rfl, hb2⟩
    go_wp2_with fail
    refine hK.out _ _ ?_ (fun hHeld => ?_)
    · (try dsimp only)
      ((try dsimp only at *); go_split_ands; refine ⟨?_, ?_, ?_, ?_, ?_, ?_, ?_⟩ <;> (first | with_reducible assumption | with_reducible exact keep_b hb2 (by with_reducible assumption) | with_reducible exact keep_drew (by with_reducible assumption) | with_reducible exact keep_b hb2 (keep_drew (by with_reducible assumption)) | with_reducible exact below_s (by with_reducible assumption) hb2 | with_reducible exact below_s (by with_reducible exact Below.drew (by with_reducible assumption)) hb2 | with_reducible exact Below.drew (by with_reducible assumption)))
    clear hK
    try simp only [Act.put, List.setIfInBounds_toArray, List.set_cons_zero, List.set_cons_succ]
    refine wpAnyH_take (i := 30) (oi := { dst := some 39, op := Op.binOp BinOp.eql 3 (Operand.tmp 36) (Operand.tmp 38) 3, type := 4, pos := "law.go:20", after := #[{ on := 27, ground := Ground.data }, { on := 29, ground := Ground.data }, { on := 25, ground := Ground.guard }], guard := some (25, true) }) (v := ?_) rfl (by kernel_rfl) (by kernel_rfl) (by kernel_rfl) (fun _ _ _ h => h) (Or.inl ⟨rfl, ?_⟩) (by assumption) ?_
    rotate_left
    · (intro w hSw; (try dsimp only at hSw); first | (go_simp; done) | (go_simp; with_reducible rfl))
    try simp only [Act.put, List.setIfInBounds_toArray, List.set_cons_zero, List.set_cons_succ]
    refine wpAnyH_take (i := 31) (oi := { dst := some 40, op := Op.pick (Operand.tmp 34) (Operand.tmp 39) (Operand.const (Value.bool false)), type := 4, pos := "law.go:20", after := #[{ on := 25, ground := Ground.data }, { on := 30, ground := Ground.data }], guard := none }) (v := ?_) rfl (by kernel_rfl) (by kernel_rfl) (by kernel_rfl) (fun _ _ _ h => h) (Or.inl ⟨rfl, ?_⟩) (by assumption) ?_
    rotate_left
    · (intro w hSw; (try dsimp only at hSw); first | (go_simp; done) | (go_simp; with_reducible rfl))
    try simp only [Act.put, List.setIfInBounds_toArray, List.set_cons_zero, List.set_cons_succ]
    refine wpAnyH_take (i := 32) (oi := { dst := some 2, op := Op.assign (Operand.tmp 40), type := 4, pos := "law.go:20", after := #[{ on := 31, ground := Ground.data }, { on := 29, ground := Ground.chain }, { on := 0, ground := Ground.phase }, { on := 1, ground := Ground.phase }, { on := 2, ground := Ground.phase }, { on := 3, ground := Ground.phase }, { on := 4, ground := Ground.phase }, { on := 5, ground := Ground.phase }, { on := 6, ground := Ground.phase }, { on := 7, ground := Ground.phase }, { on := 8, ground := Ground.phase }, { on := 9, ground := Ground.phase }, { on := 10, ground := Ground.phase }, { on := 11, ground := Ground.phase }, { on := 12, ground := Ground.phase }, { on := 13, ground := Ground.phase }, { on := 14, ground := Ground.phase }, { on := 15, ground := Ground.phase }, { on := 16, ground := Ground.phase }, { on := 17, ground := Ground.phase }, { on := 18, ground := Ground.phase }, { on := 19, ground := Ground.phase }, { on := 20, ground := Ground.phase }, { on := 21, ground := Ground.phase }, { on := 22, ground := Ground.phase }, { on := 23, ground := Ground.phase }, { on := 24, ground := Ground.phase }, { on := 25, ground := Ground.phase }, { on := 26, ground := Ground.phase }, { on := 27, ground := Ground.phase }, { on := 28, ground := Ground.phase }, { on := 29, ground := Ground.phase }, { on := 30, ground := Ground.phase }, { on := 31, ground := Ground.phase }], guard := none }) (v := ?_) rfl (by kernel_rfl) (by kernel_rfl) (by kernel_rfl) (fun _ _ _ h => h) (Or.inl ⟨rfl, ?_⟩) (by assumption) ?_
    rotate_left
    · (intro w hSw; (try dsimp only at hSw); first | (go_simp; done) | (go_simp; with_reducible rfl))
    try simp only [Act.put, List.setIfInBounds_toArray, List.set_cons_zero, List.set_cons_succ]
    refine wpAnyH_done (by kernel_rfl) ?_ _
    refine NoPanic.normal ?_
    go_wp2_with fail
    go_ret
    exact ⟨rfl, by go_split_ands; assumption⟩

theorem opChecks_walk (z : OpD) (w : World) (hs : z.s.size ≤ maxLen) :
    Calls Try.prog 3 #[z.v] w fun e w' => e = .returned (.bool true) ∧ Below w.heap.size w w' := checks_law z.K z.T z.N z.M z.H z.s w hs

end Go.Proofs.Ytcoaopcompngfaa
