/-
  No cell of these rows narrows 'for every input' (looked for: loops, veiled, ifaces, maps, wideKeys, modest, calm, conditions, laid).
  DERIVED. THE GIVEN ROWS OF THIS SEAT. 3 by the template 'for every input the law returns true; each argument reads behind the call as it read before'; 0 by the template 'total and deterministic' (their statements: YtcoaopcompngfaaTotals.lean).
  GIVEN WITH THE SEED: the statements are not yours to turn. If you find one false, say at which input.
  Laid BY PROGRAM, IN A SANDBOX (cutbox-rows.mjs): the forced cells as the released guide's own fill.sh prints them over the translation 2e8c8dcda0476317… (all of the seat's roots in one cut). By AI agents, Wed Nov 11 2026. No macro, syntax, notation, axiom, sorry.
-/
import Derived.Test.YtcoaopcompngfaaChecked
import GoSem.Claim
import GoSem.ClaimJoined
import GoSem.ClaimMapViews
import Derived.JoinedTies
import Derived.KernelRfl
namespace Go.Proofs.Ytcoaopcompngfaa
/- THE CELL 'sum', in the pinned program and in every row, IS THE sha256 OF THE DUMP (.gsa) THAT YtcoaopcompngfaaProg.lean LOADS. Nothing in Lean hashes anything: it is a label: what it is worth is what the hold of that sum in a sandbox is worth. -/
noncomputable def Try.pinned : Pinned := { name := "ytcoaopcompngfaa", sum := "2e8c8dcda0476317880edcae63bfe3ea9776c3cd89ba6c9f7f6195a44f85d7ed", checked := Try.checked }
namespace Rows
def none {H : Type} : Left H := { results := [], args := [] }

/-- 'garthlaw19.OpChecks': WHATEVER THE INPUT: true; the input reads as it did. -/
def opChecksSpec : ChangeSpec := { name := "opChecks", fn := fun _ => fun
  | [d] => { results := [.lit (.bool true)], args := [d] }
  | _ => none }
def opChecksRow : OpenClaim := { program := "ytcoaopcompngfaa", sum := "2e8c8dcda0476317880edcae63bfe3ea9776c3cd89ba6c9f7f6195a44f85d7ed", func := "garth/garthlaw19.OpChecks", spec := "opChecks", apart := false }
def OpChecksSaid : Prop := opChecksRow.holds Try.pinned (OpenSpec.ofChange opChecksSpec)

/-- ITS FALSE NEIGHBOUR: 'it returns false'. Refute it at one input. -/
def opChecksWrong : ChangeSpec := { name := "opChecks", fn := fun _ => fun
  | [d] => { results := [.lit (.bool false)], args := [d] }
  | _ => none }
def OpChecksWrongFalsely : Prop := opChecksRow.holds Try.pinned (OpenSpec.ofChange opChecksWrong)

/-- 'garthlaw19.OpWords': WHATEVER THE INPUT: true; the input reads as it did. -/
def opWordsSpec : ChangeSpec := { name := "opWords", fn := fun _ => fun
  | [d1, d2] => { results := [.lit (.bool true)], args := [d1, d2] }
  | _ => none }
def opWordsRow : OpenClaim := { program := "ytcoaopcompngfaa", sum := "2e8c8dcda0476317880edcae63bfe3ea9776c3cd89ba6c9f7f6195a44f85d7ed", func := "garth/garthlaw19.OpWords", spec := "opWords", apart := false }
def OpWordsSaid : Prop := opWordsRow.holds Try.pinned (OpenSpec.ofChange opWordsSpec)

/-- ITS FALSE NEIGHBOUR: 'it returns false'. Refute it at one input. -/
def opWordsWrong : ChangeSpec := { name := "opWords", fn := fun _ => fun
  | [d1, d2] => { results := [.lit (.bool false)], args := [d1, d2] }
  | _ => none }
def OpWordsWrongFalsely : Prop := opWordsRow.holds Try.pinned (OpenSpec.ofChange opWordsWrong)

/-- 'garthlaw19.OpAsks': WHATEVER THE INPUT: true; the input reads as it did. -/
def opAsksSpec : ChangeSpec := { name := "opAsks", fn := fun _ => fun
  | [d] => { results := [.lit (.bool true)], args := [d] }
  | _ => none }
def opAsksRow : OpenClaim := { program := "ytcoaopcompngfaa", sum := "2e8c8dcda0476317880edcae63bfe3ea9776c3cd89ba6c9f7f6195a44f85d7ed", func := "garth/garthlaw19.OpAsks", spec := "opAsks", apart := false }
def OpAsksSaid : Prop := opAsksRow.holds Try.pinned (OpenSpec.ofChange opAsksSpec)

/-- ITS FALSE NEIGHBOUR: 'it returns false'. Refute it at one input. -/
def opAsksWrong : ChangeSpec := { name := "opAsks", fn := fun _ => fun
  | [d] => { results := [.lit (.bool false)], args := [d] }
  | _ => none }
def OpAsksWrongFalsely : Prop := opAsksRow.holds Try.pinned (OpenSpec.ofChange opAsksWrong)

/- THE SECOND FORM. 'bulk': how many values and letters a reading holds, each counted each time it is reached (what is shared counts as often as it is met; a slice's spare places count too). A statement '..UptoSaid' is the law's where the arguments, and the package variables that the reading takes, are together of bulk at most 1048576: NARROWER than '..Said'. Prove '..Said' where nothing that the law and all that it calls make is longer than what came in: it says more and counts as full. Else prove '..UptoSaid'. A law counts once. -/
mutual
def uptoBulk {H : Type} : DataW H → Nat
  | .lit (.string bytes) => bytes.length + 1
  | .lit _ => 1
  | .nil => 1
  | .ptr d => uptoBulk d + 1
  | .slice elems spare => uptoBulkAll elems + uptoBulkAll spare + 1
  | .agg parts => uptoBulkAll parts + 1
  | .iface _ d => uptoBulk d + 1
  | .map entries => uptoBulkEntries entries + 1
  | .held _ => 1
def uptoBulkAll {H : Type} : List (DataW H) → Nat
  | [] => 0
  | d :: r => uptoBulk d + uptoBulkAll r
def uptoBulkEntries {H : Type} : List (Lit × DataW H) → Nat
  | [] => 0
  | x :: r => uptoBulkEntry x + uptoBulkEntries r
def uptoBulkEntry {H : Type} : Lit × DataW H → Nat
  | (.string bytes, d) => bytes.length + uptoBulk d + 1
  | (_, d) => uptoBulk d + 1
 end
def uptoSmall : (H : Type) → List (DataW H) → Bool := fun _ ds => decide (uptoBulkAll ds ≤ 1048576)
def OpenSpec.upto (s : _root_.Go.ChangeSpec) : _root_.Go.OpenSpec := { _root_.Go.OpenSpec.ofChange s with cond := some uptoSmall }

/-- 'garthlaw19.OpChecks', WHERE WHAT IT READS IS OF BULK AT MOST 1048576: true; the input reads as it did. -/
def opChecksUptoRow : OpenClaim := { program := "ytcoaopcompngfaa", sum := "2e8c8dcda0476317880edcae63bfe3ea9776c3cd89ba6c9f7f6195a44f85d7ed", func := "garth/garthlaw19.OpChecks", spec := "opChecks", apart := false, narrowed := true }
def OpChecksUptoSaid : Prop := opChecksUptoRow.holds Try.pinned (OpenSpec.upto opChecksSpec)

/-- 'garthlaw19.OpWords', WHERE WHAT IT READS IS OF BULK AT MOST 1048576: true; the input reads as it did. -/
def opWordsUptoRow : OpenClaim := { program := "ytcoaopcompngfaa", sum := "2e8c8dcda0476317880edcae63bfe3ea9776c3cd89ba6c9f7f6195a44f85d7ed", func := "garth/garthlaw19.OpWords", spec := "opWords", apart := false, narrowed := true }
def OpWordsUptoSaid : Prop := opWordsUptoRow.holds Try.pinned (OpenSpec.upto opWordsSpec)

/-- 'garthlaw19.OpAsks', WHERE WHAT IT READS IS OF BULK AT MOST 1048576: true; the input reads as it did. -/
def opAsksUptoRow : OpenClaim := { program := "ytcoaopcompngfaa", sum := "2e8c8dcda0476317880edcae63bfe3ea9776c3cd89ba6c9f7f6195a44f85d7ed", func := "garth/garthlaw19.OpAsks", spec := "opAsks", apart := false, narrowed := true }
def OpAsksUptoSaid : Prop := opAsksUptoRow.holds Try.pinned (OpenSpec.upto opAsksSpec)

end Rows
end Go.Proofs.Ytcoaopcompngfaa
