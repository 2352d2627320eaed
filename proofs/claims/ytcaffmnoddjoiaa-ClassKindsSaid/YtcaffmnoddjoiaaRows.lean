/-
  No cell of these rows narrows 'for every input' (looked for: loops, veiled, ifaces, maps, wideKeys, modest, calm, conditions, laid).
  DERIVED. THE GIVEN ROWS OF THIS SEAT. 6 by the template 'for every input the law returns true; each argument reads behind the call as it read before'; 0 by the template 'total and deterministic' (their statements: YtcaffmnoddjoiaaTotals.lean).
  GIVEN WITH THE SEED: the statements are not yours to turn. If you find one false, say at which input.
  Laid BY PROGRAM, IN A SANDBOX (cutbox-rows.mjs): the forced cells as the released guide's own fill.sh prints them over the translation e610b1724e69e9b0… (all of the seat's roots in one cut). By AI agents, Wed Nov 11 2026. No macro, syntax, notation, axiom, sorry.
-/
import Derived.Test.YtcaffmnoddjoiaaChecked
import GoSem.Claim
import GoSem.ClaimJoined
import GoSem.ClaimMapViews
import Derived.JoinedTies
import Derived.KernelRfl
namespace Go.Proofs.Ytcaffmnoddjoiaa
/- THE CELL 'sum', in the pinned program and in every row, IS THE sha256 OF THE DUMP (.gsa) THAT YtcaffmnoddjoiaaProg.lean LOADS. Nothing in Lean hashes anything: it is a label: what it is worth is what the hold of that sum in a sandbox is worth. -/
noncomputable def Try.pinned : Pinned := { name := "ytcaffmnoddjoiaa", sum := "e610b1724e69e9b06c4400a37639e2aaf97c36fd7be238f41107aafe4ded98fc", checked := Try.checked }
namespace Rows
def none {H : Type} : Left H := { results := [], args := [] }

/-- 'garthlaw03.ClassKinds': WHATEVER THE INPUT: true; the input reads as it did. -/
def classKindsSpec : ChangeSpec := { name := "classKinds", fn := fun _ => fun
  | [d] => { results := [.lit (.bool true)], args := [d] }
  | _ => none }
def classKindsRow : OpenClaim := { program := "ytcaffmnoddjoiaa", sum := "e610b1724e69e9b06c4400a37639e2aaf97c36fd7be238f41107aafe4ded98fc", func := "garth/garthlaw03.ClassKinds", spec := "classKinds", apart := false }
def ClassKindsSaid : Prop := classKindsRow.holds Try.pinned (OpenSpec.ofChange classKindsSpec)

/-- ITS FALSE NEIGHBOUR: 'it returns false'. Refute it at one input. -/
def classKindsWrong : ChangeSpec := { name := "classKinds", fn := fun _ => fun
  | [d] => { results := [.lit (.bool false)], args := [d] }
  | _ => none }
def ClassKindsWrongFalsely : Prop := classKindsRow.holds Try.pinned (OpenSpec.ofChange classKindsWrong)

/-- 'garthlaw03.ClassTables': WHATEVER THE INPUT: true; the input reads as it did. -/
def classTablesSpec : ChangeSpec := { name := "classTables", fn := fun _ => fun
  | [d] => { results := [.lit (.bool true)], args := [d] }
  | _ => none }
def classTablesRow : OpenClaim := { program := "ytcaffmnoddjoiaa", sum := "e610b1724e69e9b06c4400a37639e2aaf97c36fd7be238f41107aafe4ded98fc", func := "garth/garthlaw03.ClassTables", spec := "classTables", apart := false }
def ClassTablesSaid : Prop := classTablesRow.holds Try.pinned (OpenSpec.ofChange classTablesSpec)

/-- ITS FALSE NEIGHBOUR: 'it returns false'. Refute it at one input. -/
def classTablesWrong : ChangeSpec := { name := "classTables", fn := fun _ => fun
  | [d] => { results := [.lit (.bool false)], args := [d] }
  | _ => none }
def ClassTablesWrongFalsely : Prop := classTablesRow.holds Try.pinned (OpenSpec.ofChange classTablesWrong)

/-- 'garthlaw03.ClassRises': WHATEVER THE INPUT: true; the input reads as it did. -/
def classRisesSpec : ChangeSpec := { name := "classRises", fn := fun _ => fun
  | [d1, d2] => { results := [.lit (.bool true)], args := [d1, d2] }
  | _ => none }
def classRisesRow : OpenClaim := { program := "ytcaffmnoddjoiaa", sum := "e610b1724e69e9b06c4400a37639e2aaf97c36fd7be238f41107aafe4ded98fc", func := "garth/garthlaw03.ClassRises", spec := "classRises", apart := false }
def ClassRisesSaid : Prop := classRisesRow.holds Try.pinned (OpenSpec.ofChange classRisesSpec)

/-- ITS FALSE NEIGHBOUR: 'it returns false'. Refute it at one input. -/
def classRisesWrong : ChangeSpec := { name := "classRises", fn := fun _ => fun
  | [d1, d2] => { results := [.lit (.bool false)], args := [d1, d2] }
  | _ => none }
def ClassRisesWrongFalsely : Prop := classRisesRow.holds Try.pinned (OpenSpec.ofChange classRisesWrong)

/-- 'garthlaw03.ClassFits': WHATEVER THE INPUT: true; the input reads as it did. -/
def classFitsSpec : ChangeSpec := { name := "classFits", fn := fun _ => fun
  | [d1, d2] => { results := [.lit (.bool true)], args := [d1, d2] }
  | _ => none }
def classFitsRow : OpenClaim := { program := "ytcaffmnoddjoiaa", sum := "e610b1724e69e9b06c4400a37639e2aaf97c36fd7be238f41107aafe4ded98fc", func := "garth/garthlaw03.ClassFits", spec := "classFits", apart := false }
def ClassFitsSaid : Prop := classFitsRow.holds Try.pinned (OpenSpec.ofChange classFitsSpec)

/-- ITS FALSE NEIGHBOUR: 'it returns false'. Refute it at one input. -/
def classFitsWrong : ChangeSpec := { name := "classFits", fn := fun _ => fun
  | [d1, d2] => { results := [.lit (.bool false)], args := [d1, d2] }
  | _ => none }
def ClassFitsWrongFalsely : Prop := classFitsRow.holds Try.pinned (OpenSpec.ofChange classFitsWrong)

/-- 'garthlaw03.ClassLeast': WHATEVER THE INPUT: true; the input reads as it did. -/
def classLeastSpec : ChangeSpec := { name := "classLeast", fn := fun _ => fun
  | [d1, d2] => { results := [.lit (.bool true)], args := [d1, d2] }
  | _ => none }
def classLeastRow : OpenClaim := { program := "ytcaffmnoddjoiaa", sum := "e610b1724e69e9b06c4400a37639e2aaf97c36fd7be238f41107aafe4ded98fc", func := "garth/garthlaw03.ClassLeast", spec := "classLeast", apart := false }
def ClassLeastSaid : Prop := classLeastRow.holds Try.pinned (OpenSpec.ofChange classLeastSpec)

/-- ITS FALSE NEIGHBOUR: 'it returns false'. Refute it at one input. -/
def classLeastWrong : ChangeSpec := { name := "classLeast", fn := fun _ => fun
  | [d1, d2] => { results := [.lit (.bool false)], args := [d1, d2] }
  | _ => none }
def ClassLeastWrongFalsely : Prop := classLeastRow.holds Try.pinned (OpenSpec.ofChange classLeastWrong)

/-- 'garthlaw03.ClassRuns': WHATEVER THE INPUT: true; the input reads as it did. -/
def classRunsSpec : ChangeSpec := { name := "classRuns", fn := fun _ => fun
  | [d] => { results := [.lit (.bool true)], args := [d] }
  | _ => none }
def classRunsRow : OpenClaim := { program := "ytcaffmnoddjoiaa", sum := "e610b1724e69e9b06c4400a37639e2aaf97c36fd7be238f41107aafe4ded98fc", func := "garth/garthlaw03.ClassRuns", spec := "classRuns", apart := false }
def ClassRunsSaid : Prop := classRunsRow.holds Try.pinned (OpenSpec.ofChange classRunsSpec)

/-- ITS FALSE NEIGHBOUR: 'it returns false'. Refute it at one input. -/
def classRunsWrong : ChangeSpec := { name := "classRuns", fn := fun _ => fun
  | [d] => { results := [.lit (.bool false)], args := [d] }
  | _ => none }
def ClassRunsWrongFalsely : Prop := classRunsRow.holds Try.pinned (OpenSpec.ofChange classRunsWrong)

/- THE SECOND FORM. 'bulk': how many values and letters a reading holds, each counted each time it is reached (what is shared counts as often as it is met; a slice's spare places count too). A statement '..UptoSaid' is the law's where the arguments, and the package variables that the reading takes, are together of bulk at most 1048576: NARROWER than '..Said'. Prove '..Said' where nothing that the law and all that it calls make is longer than what came in: it says more and counts as full. Else prove '..UptoSaid'. A law counts once. -/
mutual
def uptoBulk {H : Type} : DataW H → Nat
  | .lit (.string bytes) => bytes.length + 1
  | .lit _ => 1
  | .nil => 1
  | .ptr d => uptoBulk d + 1
  | .slice elems spare => uptoBulkAll elems + uptoBulkAll spare + 1
  | .agg parts => uptoBulkAll parts + 1
  | .iface _ d => uptoBulk d + 1
  | .map entries => uptoBulkEntries entries + 1
  | .held _ => 1
def uptoBulkAll {H : Type} : List (DataW H) → Nat
  | [] => 0
  | d :: r => uptoBulk d + uptoBulkAll r
def uptoBulkEntries {H : Type} : List (Lit × DataW H) → Nat
  | [] => 0
  | x :: r => uptoBulkEntry x + uptoBulkEntries r
def uptoBulkEntry {H : Type} : Lit × DataW H → Nat
  | (.string bytes, d) => bytes.length + uptoBulk d + 1
  | (_, d) => uptoBulk d + 1
 end
def uptoSmall : (H : Type) → List (DataW H) → Bool := fun _ ds => decide (uptoBulkAll ds ≤ 1048576)
def OpenSpec.upto (s : _root_.Go.ChangeSpec) : _root_.Go.OpenSpec := { _root_.Go.OpenSpec.ofChange s with cond := some uptoSmall }

/-- 'garthlaw03.ClassKinds', WHERE WHAT IT READS IS OF BULK AT MOST 1048576: true; the input reads as it did. -/
def classKindsUptoRow : OpenClaim := { program := "ytcaffmnoddjoiaa", sum := "e610b1724e69e9b06c4400a37639e2aaf97c36fd7be238f41107aafe4ded98fc", func := "garth/garthlaw03.ClassKinds", spec := "classKinds", apart := false, narrowed := true }
def ClassKindsUptoSaid : Prop := classKindsUptoRow.holds Try.pinned (OpenSpec.upto classKindsSpec)

/-- 'garthlaw03.ClassTables', WHERE WHAT IT READS IS OF BULK AT MOST 1048576: true; the input reads as it did. -/
def classTablesUptoRow : OpenClaim := { program := "ytcaffmnoddjoiaa", sum := "e610b1724e69e9b06c4400a37639e2aaf97c36fd7be238f41107aafe4ded98fc", func := "garth/garthlaw03.ClassTables", spec := "classTables", apart := false, narrowed := true }
def ClassTablesUptoSaid : Prop := classTablesUptoRow.holds Try.pinned (OpenSpec.upto classTablesSpec)

/-- 'garthlaw03.ClassRises', WHERE WHAT IT READS IS OF BULK AT MOST 1048576: true; the input reads as it did. -/
def classRisesUptoRow : OpenClaim := { program := "ytcaffmnoddjoiaa", sum := "e610b1724e69e9b06c4400a37639e2aaf97c36fd7be238f41107aafe4ded98fc", func := "garth/garthlaw03.ClassRises", spec := "classRises", apart := false, narrowed := true }
def ClassRisesUptoSaid : Prop := classRisesUptoRow.holds Try.pinned (OpenSpec.upto classRisesSpec)

/-- 'garthlaw03.ClassFits', WHERE WHAT IT READS IS OF BULK AT MOST 1048576: true; the input reads as it did. -/
def classFitsUptoRow : OpenClaim := { program := "ytcaffmnoddjoiaa", sum := "e610b1724e69e9b06c4400a37639e2aaf97c36fd7be238f41107aafe4ded98fc", func := "garth/garthlaw03.ClassFits", spec := "classFits", apart := false, narrowed := true }
def ClassFitsUptoSaid : Prop := classFitsUptoRow.holds Try.pinned (OpenSpec.upto classFitsSpec)

/-- 'garthlaw03.ClassLeast', WHERE WHAT IT READS IS OF BULK AT MOST 1048576: true; the input reads as it did. -/
def classLeastUptoRow : OpenClaim := { program := "ytcaffmnoddjoiaa", sum := "e610b1724e69e9b06c4400a37639e2aaf97c36fd7be238f41107aafe4ded98fc", func := "garth/garthlaw03.ClassLeast", spec := "classLeast", apart := false, narrowed := true }
def ClassLeastUptoSaid : Prop := classLeastUptoRow.holds Try.pinned (OpenSpec.upto classLeastSpec)

/-- 'garthlaw03.ClassRuns', WHERE WHAT IT READS IS OF BULK AT MOST 1048576: true; the input reads as it did. -/
def classRunsUptoRow : OpenClaim := { program := "ytcaffmnoddjoiaa", sum := "e610b1724e69e9b06c4400a37639e2aaf97c36fd7be238f41107aafe4ded98fc", func := "garth/garthlaw03.ClassRuns", spec := "classRuns", apart := false, narrowed := true }
def ClassRunsUptoSaid : Prop := classRunsUptoRow.holds Try.pinned (OpenSpec.upto classRunsSpec)

end Rows
end Go.Proofs.Ytcaffmnoddjoiaa
