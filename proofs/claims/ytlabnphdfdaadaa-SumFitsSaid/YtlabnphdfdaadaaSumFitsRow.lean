/- SumFits: one sum fits another one just if it can be taken away from it. Conditions: none: every input. -/
import Derived.Test.YtlabnphdfdaadaaRows
import Derived.WalkKit
import Derived.ProofKit
import Derived.OpenShut
import Derived.WalkLawsBesides
import Derived.Test.YtlabnphdfdaadaaFits
import Derived.Test.YtlabnphdfdaadaaArr
namespace Go.Proofs.Ytlabnphdfdaadaa.sumFits
open Go.ChangeShapes Go.WideShapes Go.ChangeAt Go.RowKit
set_option linter.unusedVariables false

theorem own : ownKnob Try.prog.godebug = none := by kernel_rfl
theorem cells3 : Try.prog.cellsOf 3 = 1 := by kernel_rfl
theorem cells31 : Try.prog.cellsOf 31 = 2 := by kernel_rfl

/-! ### The walk -/
theorem walk (a0x a0y : Int) (a1x a1y : Int)  (w : World) :
    Calls Try.prog 5 #[.agg #[.int .i64 a0x, .int .i64 a0y], .agg #[.int .i64 a1x, .int .i64 a1y]] w fun e w' => e = .returned (.bool true) ∧ Grown w w' := by
  exact (sumFits_walk a0x a0y a1x a1y  w).mono fun _ _ h => h

/-! ### The row's step -/
set_option maxRecDepth 100000 in
theorem lifted (os : Os) (started : os.Started) (H : Type) (enc : TypeId × Value → H) :
    ReturnsInHanded {} Try.checked os 5 .any (Rows.sumFitsSpec.pre6 enc Try.prog Try.f5 Rows.sumFitsRow.domain false) (Rows.sumFitsSpec.post enc Try.prog Try.f5 false true false false) := by
  refine returnsInHanded_of_change (C := Try.checked) own started (by kernel_rfl) Try.func5
    (ChangeSpec.witness6 (enc := enc) (C := Try.checked) false ⟨#[], #[.agg #[.int .i64 0, .int .i64 0], .agg #[.int .i64 0, .int .i64 0]], []⟩ 8 (by kernel_rfl) (by kernel_rfl) (by kernel_rfl) (by kernel_rfl)) ?_
  intro W base args ds gs before hval0 hW hcnd _
  have hval : ∀ (j : Nat) t v, Try.f5.params[j]? = some t → args[j]? = some v → Value.okWide Try.prog W .any base t v := hval0
  have hW' := hW
  obtain ⟨p, q, hA0, hV, rfl, hfz, hnd⟩ := hW
  have hA : DataW.TrodAll enc Try.prog W 0 (fun _ => true) true Try.f5.params.toList args.toList ds p := hA0
  rw [Try.params5] at hA hval
  obtain ⟨v0, vs0, d0, ds0, p0, q0, hargs, rfl, rfl, h0, r0⟩ := trodAll_cons hA
  obtain ⟨v1, vs1, d1, ds1, p1, q1, rfl, rfl, rfl, h1, r1⟩ := trodAll_cons r0
  obtain ⟨rfl, rfl, rfl⟩ := trodAll_nil r1
  obtain rfl : args = #[v0, v1] := by cases args; simp_all
  obtain ⟨rfl, rfl⟩ := trodVars_none hV
  obtain ⟨a0x, a0y, rfl, rfl, rfl, w0x, w0y⟩ := open_arr2 Try.underlying31 Try.underlying3 (cells31) (cells3) (hval 0 31 v0 rfl rfl) h0
  obtain ⟨a1x, a1y, rfl, rfl, rfl, w1x, w1y⟩ := open_arr2 Try.underlying31 Try.underlying3 (cells31) (cells3) (hval 1 31 v1 rfl rfl) h1
  clear hA0 hval0
  simp only [List.append_nil] at hW'
  refine (walk a0x a0y a1x a1y  W).mono fun e W' ⟨he, hg⟩ => ?_
  subst he
  exact ⟨_, rfl, post_of_same (pa := []) (pv := []) hW' (fun _ _ _ => (trodAll_cons_mk (shut_bool Try.underlying4 _) trodAll_mk0)) (fun sp _ => (trodAll_cons_mk (shut_arr2 Try.underlying31 Try.underlying3 (cells31) (cells3) w0x w0y) (trodAll_cons_mk (shut_arr2 Try.underlying31 Try.underlying3 (cells31) (cells3) w1x w1y) trodAll_mk0))) (fun _ _ => rfl) rfl
    (hg.frame _) hg.2.1 (ok_one (by kernel_rfl) rfl (okWide_bool_mk Try.underlying4 _))⟩

theorem over : Rows.sumFitsRow.holds Try.pinned (OpenSpec.ofChange Rows.sumFitsSpec) :=
  OpenClaim.holds_of_wide 5 Try.f5 rfl rfl rfl rfl rfl rfl rfl ⟨rfl, rfl, rfl, rfl, rfl⟩ rfl rfl rfl rfl rfl (by kernel_rfl) Try.func5 (by kernel_rfl)
    (of_decide_eq_true (by kernel_rfl)) (by unfold Func.isWrapper; first | (rw [if_pos (by decide +kernel)]; kernel_rfl) | (rw [if_neg (by decide +kernel)]; exact ⟨rfl, rfl⟩))
    (fun os started H enc _ => lifted os started H enc)

/-- The statement. -/
theorem proved : Rows.SumFitsSaid :=
  over
#print axioms proved
end Go.Proofs.Ytlabnphdfdaadaa.sumFits
