/-
  No cell of these rows narrows 'for every input' (looked for: loops, veiled, ifaces, maps, wideKeys, modest, calm, conditions, laid).
  DERIVED. THE GIVEN ROWS OF THIS SEAT. 7 by the template 'for every input the law returns true; each argument reads behind the call as it read before'; 0 by the template 'total and deterministic' (their statements: YtlabnphdfdaadaaTotals.lean).
  GIVEN WITH THE SEED: the statements are not yours to turn. If you find one false, say at which input.
  Laid BY PROGRAM, IN A SANDBOX (cutbox-rows.mjs): the forced cells as the released guide's own fill.sh prints them over the translation 317312031f16d8ea… (all of the seat's roots in one cut). By AI agents, Wed Nov 11 2026. No macro, syntax, notation, axiom, sorry.
-/
import Derived.Test.YtlabnphdfdaadaaChecked
import GoSem.Claim
import GoSem.ClaimJoined
import GoSem.ClaimMapViews
import Derived.JoinedTies
import Derived.KernelRfl
namespace Go.Proofs.Ytlabnphdfdaadaa
/- THE CELL 'sum', in the pinned program and in every row, IS THE sha256 OF THE DUMP (.gsa) THAT YtlabnphdfdaadaaProg.lean LOADS. Nothing in Lean hashes anything: it is a label: what it is worth is what the hold of that sum in a sandbox is worth. -/
noncomputable def Try.pinned : Pinned := { name := "ytlabnphdfdaadaa", sum := "317312031f16d8ea8c146c4ccfde686a4d868f9ae5644c0e2e1b86733af9d4e1", checked := Try.checked }
namespace Rows
def none {H : Type} : Left H := { results := [], args := [] }

/-- 'garthlaw04.SumBack': WHATEVER THE INPUT: true; the input reads as it did. -/
def sumBackSpec : ChangeSpec := { name := "sumBack", fn := fun _ => fun
  | [d1, d2, d3, d4] => { results := [.lit (.bool true)], args := [d1, d2, d3, d4] }
  | _ => none }
def sumBackRow : OpenClaim := { program := "ytlabnphdfdaadaa", sum := "317312031f16d8ea8c146c4ccfde686a4d868f9ae5644c0e2e1b86733af9d4e1", func := "garth/garthlaw04.SumBack", spec := "sumBack", apart := false }
def SumBackSaid : Prop := sumBackRow.holds Try.pinned (OpenSpec.ofChange sumBackSpec)

/-- ITS FALSE NEIGHBOUR: 'it returns false'. Refute it at one input. -/
def sumBackWrong : ChangeSpec := { name := "sumBack", fn := fun _ => fun
  | [d1, d2, d3, d4] => { results := [.lit (.bool false)], args := [d1, d2, d3, d4] }
  | _ => none }
def SumBackWrongFalsely : Prop := sumBackRow.holds Try.pinned (OpenSpec.ofChange sumBackWrong)

/-- 'garthlaw04.SumOrder': WHATEVER THE INPUT: true; the input reads as it did. -/
def sumOrderSpec : ChangeSpec := { name := "sumOrder", fn := fun _ => fun
  | [d1, d2, d3] => { results := [.lit (.bool true)], args := [d1, d2, d3] }
  | _ => none }
def sumOrderRow : OpenClaim := { program := "ytlabnphdfdaadaa", sum := "317312031f16d8ea8c146c4ccfde686a4d868f9ae5644c0e2e1b86733af9d4e1", func := "garth/garthlaw04.SumOrder", spec := "sumOrder", apart := false }
def SumOrderSaid : Prop := sumOrderRow.holds Try.pinned (OpenSpec.ofChange sumOrderSpec)

/-- ITS FALSE NEIGHBOUR: 'it returns false'. Refute it at one input. -/
def sumOrderWrong : ChangeSpec := { name := "sumOrder", fn := fun _ => fun
  | [d1, d2, d3] => { results := [.lit (.bool false)], args := [d1, d2, d3] }
  | _ => none }
def SumOrderWrongFalsely : Prop := sumOrderRow.holds Try.pinned (OpenSpec.ofChange sumOrderWrong)

/-- 'garthlaw04.SumFits': WHATEVER THE INPUT: true; the input reads as it did. -/
def sumFitsSpec : ChangeSpec := { name := "sumFits", fn := fun _ => fun
  | [d1, d2] => { results := [.lit (.bool true)], args := [d1, d2] }
  | _ => none }
def sumFitsRow : OpenClaim := { program := "ytlabnphdfdaadaa", sum := "317312031f16d8ea8c146c4ccfde686a4d868f9ae5644c0e2e1b86733af9d4e1", func := "garth/garthlaw04.SumFits", spec := "sumFits", apart := false }
def SumFitsSaid : Prop := sumFitsRow.holds Try.pinned (OpenSpec.ofChange sumFitsSpec)

/-- ITS FALSE NEIGHBOUR: 'it returns false'. Refute it at one input. -/
def sumFitsWrong : ChangeSpec := { name := "sumFits", fn := fun _ => fun
  | [d1, d2] => { results := [.lit (.bool false)], args := [d1, d2] }
  | _ => none }
def SumFitsWrongFalsely : Prop := sumFitsRow.holds Try.pinned (OpenSpec.ofChange sumFitsWrong)

/-- 'garthlaw04.SumParts': WHATEVER THE INPUT: true; the input reads as it did. -/
def sumPartsSpec : ChangeSpec := { name := "sumParts", fn := fun _ => fun
  | [d1, d2, d3, d4, d5] => { results := [.lit (.bool true)], args := [d1, d2, d3, d4, d5] }
  | _ => none }
def sumPartsRow : OpenClaim := { program := "ytlabnphdfdaadaa", sum := "317312031f16d8ea8c146c4ccfde686a4d868f9ae5644c0e2e1b86733af9d4e1", func := "garth/garthlaw04.SumParts", spec := "sumParts", apart := false }
def SumPartsSaid : Prop := sumPartsRow.holds Try.pinned (OpenSpec.ofChange sumPartsSpec)

/-- ITS FALSE NEIGHBOUR: 'it returns false'. Refute it at one input. -/
def sumPartsWrong : ChangeSpec := { name := "sumParts", fn := fun _ => fun
  | [d1, d2, d3, d4, d5] => { results := [.lit (.bool false)], args := [d1, d2, d3, d4, d5] }
  | _ => none }
def SumPartsWrongFalsely : Prop := sumPartsRow.holds Try.pinned (OpenSpec.ofChange sumPartsWrong)

/-- 'garthlaw04.SumTimes': WHATEVER THE INPUT: true; the input reads as it did. -/
def sumTimesSpec : ChangeSpec := { name := "sumTimes", fn := fun _ => fun
  | [d1, d2, d3] => { results := [.lit (.bool true)], args := [d1, d2, d3] }
  | _ => none }
def sumTimesRow : OpenClaim := { program := "ytlabnphdfdaadaa", sum := "317312031f16d8ea8c146c4ccfde686a4d868f9ae5644c0e2e1b86733af9d4e1", func := "garth/garthlaw04.SumTimes", spec := "sumTimes", apart := false }
def SumTimesSaid : Prop := sumTimesRow.holds Try.pinned (OpenSpec.ofChange sumTimesSpec)

/-- ITS FALSE NEIGHBOUR: 'it returns false'. Refute it at one input. -/
def sumTimesWrong : ChangeSpec := { name := "sumTimes", fn := fun _ => fun
  | [d1, d2, d3] => { results := [.lit (.bool false)], args := [d1, d2, d3] }
  | _ => none }
def SumTimesWrongFalsely : Prop := sumTimesRow.holds Try.pinned (OpenSpec.ofChange sumTimesWrong)

/-- 'garthlaw04.SumTotals': WHATEVER THE INPUT: true; the input reads as it did. -/
def sumTotalsSpec : ChangeSpec := { name := "sumTotals", fn := fun _ => fun
  | [d1, d2] => { results := [.lit (.bool true)], args := [d1, d2] }
  | _ => none }
def sumTotalsRow : OpenClaim := { program := "ytlabnphdfdaadaa", sum := "317312031f16d8ea8c146c4ccfde686a4d868f9ae5644c0e2e1b86733af9d4e1", func := "garth/garthlaw04.SumTotals", spec := "sumTotals", apart := false }
def SumTotalsSaid : Prop := sumTotalsRow.holds Try.pinned (OpenSpec.ofChange sumTotalsSpec)

/-- ITS FALSE NEIGHBOUR: 'it returns false'. Refute it at one input. -/
def sumTotalsWrong : ChangeSpec := { name := "sumTotals", fn := fun _ => fun
  | [d1, d2] => { results := [.lit (.bool false)], args := [d1, d2] }
  | _ => none }
def SumTotalsWrongFalsely : Prop := sumTotalsRow.holds Try.pinned (OpenSpec.ofChange sumTotalsWrong)

/-- 'garthlaw04.SumRaw': WHATEVER THE INPUT: true; the input reads as it did. -/
def sumRawSpec : ChangeSpec := { name := "sumRaw", fn := fun _ => fun
  | [d1, d2, d3, d4] => { results := [.lit (.bool true)], args := [d1, d2, d3, d4] }
  | _ => none }
def sumRawRow : OpenClaim := { program := "ytlabnphdfdaadaa", sum := "317312031f16d8ea8c146c4ccfde686a4d868f9ae5644c0e2e1b86733af9d4e1", func := "garth/garthlaw04.SumRaw", spec := "sumRaw", apart := false }
def SumRawSaid : Prop := sumRawRow.holds Try.pinned (OpenSpec.ofChange sumRawSpec)

/-- ITS FALSE NEIGHBOUR: 'it returns false'. Refute it at one input. -/
def sumRawWrong : ChangeSpec := { name := "sumRaw", fn := fun _ => fun
  | [d1, d2, d3, d4] => { results := [.lit (.bool false)], args := [d1, d2, d3, d4] }
  | _ => none }
def SumRawWrongFalsely : Prop := sumRawRow.holds Try.pinned (OpenSpec.ofChange sumRawWrong)

/- THE SECOND FORM. 'bulk': how many values and letters a reading holds, each counted each time it is reached (what is shared counts as often as it is met; a slice's spare places count too). A statement '..UptoSaid' is the law's where the arguments, and the package variables that the reading takes, are together of bulk at most 1048576: NARROWER than '..Said'. Prove '..Said' where nothing that the law and all that it calls make is longer than what came in: it says more and counts as full. Else prove '..UptoSaid'. A law counts once. -/
mutual
def uptoBulk {H : Type} : DataW H → Nat
  | .lit (.string bytes) => bytes.length + 1
  | .lit _ => 1
  | .nil => 1
  | .ptr d => uptoBulk d + 1
  | .slice elems spare => uptoBulkAll elems + uptoBulkAll spare + 1
  | .agg parts => uptoBulkAll parts + 1
  | .iface _ d => uptoBulk d + 1
  | .map entries => uptoBulkEntries entries + 1
  | .held _ => 1
def uptoBulkAll {H : Type} : List (DataW H) → Nat
  | [] => 0
  | d :: r => uptoBulk d + uptoBulkAll r
def uptoBulkEntries {H : Type} : List (Lit × DataW H) → Nat
  | [] => 0
  | x :: r => uptoBulkEntry x + uptoBulkEntries r
def uptoBulkEntry {H : Type} : Lit × DataW H → Nat
  | (.string bytes, d) => bytes.length + uptoBulk d + 1
  | (_, d) => uptoBulk d + 1
 end
def uptoSmall : (H : Type) → List (DataW H) → Bool := fun _ ds => decide (uptoBulkAll ds ≤ 1048576)
def OpenSpec.upto (s : _root_.Go.ChangeSpec) : _root_.Go.OpenSpec := { _root_.Go.OpenSpec.ofChange s with cond := some uptoSmall }

/-- 'garthlaw04.SumBack', WHERE WHAT IT READS IS OF BULK AT MOST 1048576: true; the input reads as it did. -/
def sumBackUptoRow : OpenClaim := { program := "ytlabnphdfdaadaa", sum := "317312031f16d8ea8c146c4ccfde686a4d868f9ae5644c0e2e1b86733af9d4e1", func := "garth/garthlaw04.SumBack", spec := "sumBack", apart := false, narrowed := true }
def SumBackUptoSaid : Prop := sumBackUptoRow.holds Try.pinned (OpenSpec.upto sumBackSpec)

/-- 'garthlaw04.SumOrder', WHERE WHAT IT READS IS OF BULK AT MOST 1048576: true; the input reads as it did. -/
def sumOrderUptoRow : OpenClaim := { program := "ytlabnphdfdaadaa", sum := "317312031f16d8ea8c146c4ccfde686a4d868f9ae5644c0e2e1b86733af9d4e1", func := "garth/garthlaw04.SumOrder", spec := "sumOrder", apart := false, narrowed := true }
def SumOrderUptoSaid : Prop := sumOrderUptoRow.holds Try.pinned (OpenSpec.upto sumOrderSpec)

/-- 'garthlaw04.SumFits', WHERE WHAT IT READS IS OF BULK AT MOST 1048576: true; the input reads as it did. -/
def sumFitsUptoRow : OpenClaim := { program := "ytlabnphdfdaadaa", sum := "317312031f16d8ea8c146c4ccfde686a4d868f9ae5644c0e2e1b86733af9d4e1", func := "garth/garthlaw04.SumFits", spec := "sumFits", apart := false, narrowed := true }
def SumFitsUptoSaid : Prop := sumFitsUptoRow.holds Try.pinned (OpenSpec.upto sumFitsSpec)

/-- 'garthlaw04.SumParts', WHERE WHAT IT READS IS OF BULK AT MOST 1048576: true; the input reads as it did. -/
def sumPartsUptoRow : OpenClaim := { program := "ytlabnphdfdaadaa", sum := "317312031f16d8ea8c146c4ccfde686a4d868f9ae5644c0e2e1b86733af9d4e1", func := "garth/garthlaw04.SumParts", spec := "sumParts", apart := false, narrowed := true }
def SumPartsUptoSaid : Prop := sumPartsUptoRow.holds Try.pinned (OpenSpec.upto sumPartsSpec)

/-- 'garthlaw04.SumTimes', WHERE WHAT IT READS IS OF BULK AT MOST 1048576: true; the input reads as it did. -/
def sumTimesUptoRow : OpenClaim := { program := "ytlabnphdfdaadaa", sum := "317312031f16d8ea8c146c4ccfde686a4d868f9ae5644c0e2e1b86733af9d4e1", func := "garth/garthlaw04.SumTimes", spec := "sumTimes", apart := false, narrowed := true }
def SumTimesUptoSaid : Prop := sumTimesUptoRow.holds Try.pinned (OpenSpec.upto sumTimesSpec)

/-- 'garthlaw04.SumTotals', WHERE WHAT IT READS IS OF BULK AT MOST 1048576: true; the input reads as it did. -/
def sumTotalsUptoRow : OpenClaim := { program := "ytlabnphdfdaadaa", sum := "317312031f16d8ea8c146c4ccfde686a4d868f9ae5644c0e2e1b86733af9d4e1", func := "garth/garthlaw04.SumTotals", spec := "sumTotals", apart := false, narrowed := true }
def SumTotalsUptoSaid : Prop := sumTotalsUptoRow.holds Try.pinned (OpenSpec.upto sumTotalsSpec)

/-- 'garthlaw04.SumRaw', WHERE WHAT IT READS IS OF BULK AT MOST 1048576: true; the input reads as it did. -/
def sumRawUptoRow : OpenClaim := { program := "ytlabnphdfdaadaa", sum := "317312031f16d8ea8c146c4ccfde686a4d868f9ae5644c0e2e1b86733af9d4e1", func := "garth/garthlaw04.SumRaw", spec := "sumRaw", apart := false, narrowed := true }
def SumRawUptoSaid : Prop := sumRawUptoRow.holds Try.pinned (OpenSpec.upto sumRawSpec)

end Rows
end Go.Proofs.Ytlabnphdfdaadaa
