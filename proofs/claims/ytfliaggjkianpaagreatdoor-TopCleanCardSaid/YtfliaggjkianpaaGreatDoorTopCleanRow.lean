/- No residue: whatever the script is: the bytes of what malloc and calloc give are all 0, and what realloc adds is, whatever stood there before. Conditions: none: every input; the listed table (math/bits.deBruijn64tab) is tied to the program's text by the card. -/
import Derived.Test.YtfliaggjkianpaaGreatDoorK27
import Derived.Test.YtfliaggjkianpaaGreatDoorC03
import Derived.Test.YtfliaggjkianpaaGreatDoorC02
namespace Go.Proofs.YtfliaggjkianpaaGreatDoor.topClean
open Go.ChangeShapes Go.WideShapes Go.ChangeAt Go.RowKit Go.WideMaps Go.WideElems
open Go.ChangeMaps (open_string shut_string)
set_option linter.unusedVariables false
theorem readable : ((Tryz.f4.params.toList).all fun t => Tryz.prog.readableRec t && decide (t < Tryz.prog.types.size)) = true := by kernel_rfl
set_option maxRecDepth 100000 in
theorem lifted (os : Os) (started : os.Started) (H : Type) (enc : TypeId × Value → H) :
    ReturnsInHanded {} Tryz.checked os 4 .any (fun w args => (Rows.topCleanSpec.pre enc Tryz.prog Tryz.f4 [] false w args ∧ laidMetH Tryz.prog laid1 w) ∧ sizedMet enc Tryz.prog Tryz.f4 (OpenSpec.ofChange Rows.topCleanSpec) false w args)
      (Rows.topCleanSpec.post enc Tryz.prog Tryz.f4 false true false false) := by
  refine returnsInHanded_of_change_and (C := Tryz.checked) (X := fun w _ => laidMetH Tryz.prog laid1 w) (fun _ _ _ hh h => h.of_heap hh) own started (by kernel_rfl) Tryz.func4
    (ChangeSpec.witness_shaped (enc := enc) (C := Tryz.checked) (os := os) (X := fun w _ => laidMetH Tryz.prog laid1 w) false (World.doorLaid Tryz.prog 400 os) #[.agg #[.int .i64 0, .int .i64 0], .string ByteArray.empty] 8 rfl (World.shaped_of_RefB (by kernel_rfl) (by kernel_rfl)) (by kernel_rfl) (by kernel_rfl) (by kernel_rfl) (door_met os _)) ?_
  intro W base args ds gs before hval0 hW _ _ hL _
  have hval : ∀ (j : Nat) t v, Tryz.f4.params[j]? = some t → args[j]? = some v → Value.okWide Tryz.prog W .any base t v := hval0
  have hW' := hW
  obtain ⟨p, q, hA0, hV, rfl, hfz, hnd⟩ := hW
  have hA : DataW.TrodAll enc Tryz.prog W 0 (fun _ => true) true Tryz.f4.params.toList args.toList ds p := hA0
  rw [Tryz.params4] at hA hval
  obtain ⟨v0, vs0, d0, ds0, p0, q0, hargs, rfl, rfl, h0, r0⟩ := trodAll_cons hA
  obtain ⟨v1, vs1, d1, ds1, p1, q1, rfl, rfl, rfl, h1, r1⟩ := trodAll_cons r0
  obtain ⟨rfl, rfl, rfl⟩ := trodAll_nil r1
  obtain rfl : args = #[v0, v1] := by cases args; simp_all
  obtain ⟨rfl, rfl⟩ := trodVars_none hV
  have fin : ∀ e W', (e = Ending.returned (.bool true) ∧ Below W.heap.size W W') → ∃ v, e = .returned v ∧ Rows.topCleanSpec.post enc Tryz.prog Tryz.f4 false true false false W #[v0, v1] v W' := by
    rintro e W' ⟨rfl, hb⟩
    exact ⟨_, rfl, post_law laidOut (fun t ht => by have := List.all_eq_true.1 readable t ht; simpa using this) (by kernel_rfl) Tryz.underlying4 hW' rfl rfl hb⟩
  have hT := tab_of hL
  clear hA0 hval0 hL
  obtain ⟨P, C, rfl⟩ := open_cfg (hval 0 23 v0 rfl rfl) h0
  obtain ⟨s1, rfl, rfl, rfl, w1⟩ := open_string Tryz.underlying9 (hval 1 9 v1 rfl rfl) h1
  exact (topClean_walk P C s1 W w1 hT).mono fin
theorem over : Rows.TopCleanSaid :=
  OpenClaim.holds_of_wide 4 Tryz.f4 rfl rfl rfl rfl rfl rfl rfl ⟨rfl, rfl, rfl, rfl, rfl⟩ rfl rfl rfl rfl rfl (by kernel_rfl) Tryz.func4 (by kernel_rfl)
    (of_decide_eq_true (by kernel_rfl)) (by unfold Func.isWrapper; first | (rw [if_pos (by decide +kernel)]; kernel_rfl) | (rw [if_neg (by decide +kernel)]; exact ⟨rfl, rfl⟩))
    (fun os started H enc _ => lifted os started H enc)
/-- The statement: the card. -/
theorem proved : Rows.TopCleanCardSaid :=
  Claim7.holds_tied_plain_at .later [] [.data] true (true, "5a70edbbf368e8a362b195402367bad748d27e07159349563042fa7f79aa7cc8") false
    over (fun _ h => by cases h) (by kernel_rfl) (fun _ h => by cases h) topClean_row_tie rfl ⟨rfl, rfl⟩ (by kernel_rfl) rfl
    (fun f fn hf hfn => by
      obtain rfl : f = 4 := Option.some.inj ((show Tryz.prog.funcNamed "garth/garthtop.TopClean" = some 4 by kernel_rfl).symm.trans hf) |>.symm
      obtain rfl : fn = Tryz.f4 := (Option.some.inj (Tryz.func4.symm.trans hfn)).symm
      refine ⟨by kernel_rfl, fun j t ht => ?_⟩
      have hall : (Tryz.f4.params.toList).all (fun t => Tryz.prog.wantsStandIn t == false) = true := by kernel_rfl
      have hm : t ∈ Tryz.f4.params.toList := by
        obtain ⟨h1, h2⟩ := Array.getElem?_eq_some_iff.1 ht
        rw [← h2]; exact Array.getElem_mem_toList h1
      exact eq_of_beq (List.all_eq_true.1 hall t hm))
    (by kernel_rfl)
#print axioms proved
end Go.Proofs.YtfliaggjkianpaaGreatDoor.topClean
