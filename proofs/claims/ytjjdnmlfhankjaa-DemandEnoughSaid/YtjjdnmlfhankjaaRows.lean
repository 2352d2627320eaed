/-
  No cell of these rows narrows 'for every input' (looked for: loops, veiled, ifaces, maps, wideKeys, modest, calm, conditions, laid).
  DERIVED. THE GIVEN ROWS OF THIS SEAT. 5 by the template 'for every input the law returns true; each argument reads behind the call as it read before'; 0 by the template 'total and deterministic' (their statements: YtjjdnmlfhankjaaTotals.lean).
  GIVEN WITH THE SEED: the statements are not yours to turn. If you find one false, say at which input.
  Laid BY PROGRAM, IN A SANDBOX (cutbox-rows.mjs): the forced cells as the released guide's own fill.sh prints them over the translation 0ecfb61f35d5071f… (all of the seat's roots in one cut). By AI agents, Wed Nov 11 2026. No macro, syntax, notation, axiom, sorry.
-/
import Derived.Test.YtjjdnmlfhankjaaChecked
import GoSem.Claim
import GoSem.ClaimJoined
import GoSem.ClaimMapViews
import Derived.JoinedTies
import Derived.KernelRfl
namespace Go.Proofs.Ytjjdnmlfhankjaa
/- THE CELL 'sum', in the pinned program and in every row, IS THE sha256 OF THE DUMP (.gsa) THAT YtjjdnmlfhankjaaProg.lean LOADS. Nothing in Lean hashes anything: it is a label: what it is worth is what the hold of that sum in a sandbox is worth. -/
noncomputable def Try.pinned : Pinned := { name := "ytjjdnmlfhankjaa", sum := "0ecfb61f35d5071f0cea01c165c426834d13754e7106d24414b558e067ed340a", checked := Try.checked }
namespace Rows
def none {H : Type} : Left H := { results := [], args := [] }

/-- 'garthlaw05.DemandOf': WHATEVER THE INPUT: true; the input reads as it did. -/
def demandOfSpec : ChangeSpec := { name := "demandOf", fn := fun _ => fun
  | [d1, d2, d3] => { results := [.lit (.bool true)], args := [d1, d2, d3] }
  | _ => none }
def demandOfRow : OpenClaim := { program := "ytjjdnmlfhankjaa", sum := "0ecfb61f35d5071f0cea01c165c426834d13754e7106d24414b558e067ed340a", func := "garth/garthlaw05.DemandOf", spec := "demandOf", apart := false }
def DemandOfSaid : Prop := demandOfRow.holds Try.pinned (OpenSpec.ofChange demandOfSpec)

/-- ITS FALSE NEIGHBOUR: 'it returns false'. Refute it at one input. -/
def demandOfWrong : ChangeSpec := { name := "demandOf", fn := fun _ => fun
  | [d1, d2, d3] => { results := [.lit (.bool false)], args := [d1, d2, d3] }
  | _ => none }
def DemandOfWrongFalsely : Prop := demandOfRow.holds Try.pinned (OpenSpec.ofChange demandOfWrong)

/-- 'garthlaw05.DemandEnough': WHATEVER THE INPUT: true; the input reads as it did. -/
def demandEnoughSpec : ChangeSpec := { name := "demandEnough", fn := fun _ => fun
  | [d1, d2, d3] => { results := [.lit (.bool true)], args := [d1, d2, d3] }
  | _ => none }
def demandEnoughRow : OpenClaim := { program := "ytjjdnmlfhankjaa", sum := "0ecfb61f35d5071f0cea01c165c426834d13754e7106d24414b558e067ed340a", func := "garth/garthlaw05.DemandEnough", spec := "demandEnough", apart := false }
def DemandEnoughSaid : Prop := demandEnoughRow.holds Try.pinned (OpenSpec.ofChange demandEnoughSpec)

/-- ITS FALSE NEIGHBOUR: 'it returns false'. Refute it at one input. -/
def demandEnoughWrong : ChangeSpec := { name := "demandEnough", fn := fun _ => fun
  | [d1, d2, d3] => { results := [.lit (.bool false)], args := [d1, d2, d3] }
  | _ => none }
def DemandEnoughWrongFalsely : Prop := demandEnoughRow.holds Try.pinned (OpenSpec.ofChange demandEnoughWrong)

/-- 'garthlaw05.DemandParts': WHATEVER THE INPUT: true; the input reads as it did. -/
def demandPartsSpec : ChangeSpec := { name := "demandParts", fn := fun _ => fun
  | [d] => { results := [.lit (.bool true)], args := [d] }
  | _ => none }
def demandPartsRow : OpenClaim := { program := "ytjjdnmlfhankjaa", sum := "0ecfb61f35d5071f0cea01c165c426834d13754e7106d24414b558e067ed340a", func := "garth/garthlaw05.DemandParts", spec := "demandParts", apart := false }
def DemandPartsSaid : Prop := demandPartsRow.holds Try.pinned (OpenSpec.ofChange demandPartsSpec)

/-- ITS FALSE NEIGHBOUR: 'it returns false'. Refute it at one input. -/
def demandPartsWrong : ChangeSpec := { name := "demandParts", fn := fun _ => fun
  | [d] => { results := [.lit (.bool false)], args := [d] }
  | _ => none }
def DemandPartsWrongFalsely : Prop := demandPartsRow.holds Try.pinned (OpenSpec.ofChange demandPartsWrong)

/-- 'garthlaw05.DemandMet': WHATEVER THE INPUT: true; the input reads as it did. -/
def demandMetSpec : ChangeSpec := { name := "demandMet", fn := fun _ => fun
  | [d1, d2] => { results := [.lit (.bool true)], args := [d1, d2] }
  | _ => none }
def demandMetRow : OpenClaim := { program := "ytjjdnmlfhankjaa", sum := "0ecfb61f35d5071f0cea01c165c426834d13754e7106d24414b558e067ed340a", func := "garth/garthlaw05.DemandMet", spec := "demandMet", apart := false }
def DemandMetSaid : Prop := demandMetRow.holds Try.pinned (OpenSpec.ofChange demandMetSpec)

/-- ITS FALSE NEIGHBOUR: 'it returns false'. Refute it at one input. -/
def demandMetWrong : ChangeSpec := { name := "demandMet", fn := fun _ => fun
  | [d1, d2] => { results := [.lit (.bool false)], args := [d1, d2] }
  | _ => none }
def DemandMetWrongFalsely : Prop := demandMetRow.holds Try.pinned (OpenSpec.ofChange demandMetWrong)

/-- 'garthlaw05.DemandRises': WHATEVER THE INPUT: true; the input reads as it did. -/
def demandRisesSpec : ChangeSpec := { name := "demandRises", fn := fun _ => fun
  | [d1, d2] => { results := [.lit (.bool true)], args := [d1, d2] }
  | _ => none }
def demandRisesRow : OpenClaim := { program := "ytjjdnmlfhankjaa", sum := "0ecfb61f35d5071f0cea01c165c426834d13754e7106d24414b558e067ed340a", func := "garth/garthlaw05.DemandRises", spec := "demandRises", apart := false }
def DemandRisesSaid : Prop := demandRisesRow.holds Try.pinned (OpenSpec.ofChange demandRisesSpec)

/-- ITS FALSE NEIGHBOUR: 'it returns false'. Refute it at one input. -/
def demandRisesWrong : ChangeSpec := { name := "demandRises", fn := fun _ => fun
  | [d1, d2] => { results := [.lit (.bool false)], args := [d1, d2] }
  | _ => none }
def DemandRisesWrongFalsely : Prop := demandRisesRow.holds Try.pinned (OpenSpec.ofChange demandRisesWrong)

/- THE SECOND FORM. 'bulk': how many values and letters a reading holds, each counted each time it is reached (what is shared counts as often as it is met; a slice's spare places count too). A statement '..UptoSaid' is the law's where the arguments, and the package variables that the reading takes, are together of bulk at most 1048576: NARROWER than '..Said'. Prove '..Said' where nothing that the law and all that it calls make is longer than what came in: it says more and counts as full. Else prove '..UptoSaid'. A law counts once. -/
mutual
def uptoBulk {H : Type} : DataW H → Nat
  | .lit (.string bytes) => bytes.length + 1
  | .lit _ => 1
  | .nil => 1
  | .ptr d => uptoBulk d + 1
  | .slice elems spare => uptoBulkAll elems + uptoBulkAll spare + 1
  | .agg parts => uptoBulkAll parts + 1
  | .iface _ d => uptoBulk d + 1
  | .map entries => uptoBulkEntries entries + 1
  | .held _ => 1
def uptoBulkAll {H : Type} : List (DataW H) → Nat
  | [] => 0
  | d :: r => uptoBulk d + uptoBulkAll r
def uptoBulkEntries {H : Type} : List (Lit × DataW H) → Nat
  | [] => 0
  | x :: r => uptoBulkEntry x + uptoBulkEntries r
def uptoBulkEntry {H : Type} : Lit × DataW H → Nat
  | (.string bytes, d) => bytes.length + uptoBulk d + 1
  | (_, d) => uptoBulk d + 1
 end
def uptoSmall : (H : Type) → List (DataW H) → Bool := fun _ ds => decide (uptoBulkAll ds ≤ 1048576)
def OpenSpec.upto (s : _root_.Go.ChangeSpec) : _root_.Go.OpenSpec := { _root_.Go.OpenSpec.ofChange s with cond := some uptoSmall }

/-- 'garthlaw05.DemandOf', WHERE WHAT IT READS IS OF BULK AT MOST 1048576: true; the input reads as it did. -/
def demandOfUptoRow : OpenClaim := { program := "ytjjdnmlfhankjaa", sum := "0ecfb61f35d5071f0cea01c165c426834d13754e7106d24414b558e067ed340a", func := "garth/garthlaw05.DemandOf", spec := "demandOf", apart := false, narrowed := true }
def DemandOfUptoSaid : Prop := demandOfUptoRow.holds Try.pinned (OpenSpec.upto demandOfSpec)

/-- 'garthlaw05.DemandEnough', WHERE WHAT IT READS IS OF BULK AT MOST 1048576: true; the input reads as it did. -/
def demandEnoughUptoRow : OpenClaim := { program := "ytjjdnmlfhankjaa", sum := "0ecfb61f35d5071f0cea01c165c426834d13754e7106d24414b558e067ed340a", func := "garth/garthlaw05.DemandEnough", spec := "demandEnough", apart := false, narrowed := true }
def DemandEnoughUptoSaid : Prop := demandEnoughUptoRow.holds Try.pinned (OpenSpec.upto demandEnoughSpec)

/-- 'garthlaw05.DemandParts', WHERE WHAT IT READS IS OF BULK AT MOST 1048576: true; the input reads as it did. -/
def demandPartsUptoRow : OpenClaim := { program := "ytjjdnmlfhankjaa", sum := "0ecfb61f35d5071f0cea01c165c426834d13754e7106d24414b558e067ed340a", func := "garth/garthlaw05.DemandParts", spec := "demandParts", apart := false, narrowed := true }
def DemandPartsUptoSaid : Prop := demandPartsUptoRow.holds Try.pinned (OpenSpec.upto demandPartsSpec)

/-- 'garthlaw05.DemandMet', WHERE WHAT IT READS IS OF BULK AT MOST 1048576: true; the input reads as it did. -/
def demandMetUptoRow : OpenClaim := { program := "ytjjdnmlfhankjaa", sum := "0ecfb61f35d5071f0cea01c165c426834d13754e7106d24414b558e067ed340a", func := "garth/garthlaw05.DemandMet", spec := "demandMet", apart := false, narrowed := true }
def DemandMetUptoSaid : Prop := demandMetUptoRow.holds Try.pinned (OpenSpec.upto demandMetSpec)

/-- 'garthlaw05.DemandRises', WHERE WHAT IT READS IS OF BULK AT MOST 1048576: true; the input reads as it did. -/
def demandRisesUptoRow : OpenClaim := { program := "ytjjdnmlfhankjaa", sum := "0ecfb61f35d5071f0cea01c165c426834d13754e7106d24414b558e067ed340a", func := "garth/garthlaw05.DemandRises", spec := "demandRises", apart := false, narrowed := true }
def DemandRisesUptoSaid : Prop := demandRisesUptoRow.holds Try.pinned (OpenSpec.upto demandRisesSpec)

end Rows
end Go.Proofs.Ytjjdnmlfhankjaa
