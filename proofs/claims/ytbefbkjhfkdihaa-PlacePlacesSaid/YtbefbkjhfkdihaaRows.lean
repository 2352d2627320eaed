/-
  No cell of these rows narrows 'for every input' (looked for: loops, veiled, ifaces, maps, wideKeys, modest, calm, conditions, laid).
  DERIVED. THE GIVEN ROWS OF THIS SEAT. 5 by the template 'for every input the law returns true; each argument reads behind the call as it read before'; 0 by the template 'total and deterministic' (their statements: YtbefbkjhfkdihaaTotals.lean).
  GIVEN WITH THE SEED: the statements are not yours to turn. If you find one false, say at which input.
  Laid BY PROGRAM, IN A SANDBOX (cutbox-rows.mjs): the forced cells as the released guide's own fill.sh prints them over the translation e1e5db038197c9b6… (all of the seat's roots in one cut). By AI agents, Wed Nov 11 2026. No macro, syntax, notation, axiom, sorry.
-/
import Derived.Test.YtbefbkjhfkdihaaChecked
import GoSem.Claim
import GoSem.ClaimJoined
import GoSem.ClaimMapViews
import Derived.JoinedTies
import Derived.KernelRfl
namespace Go.Proofs.Ytbefbkjhfkdihaa
/- THE CELL 'sum', in the pinned program and in every row, IS THE sha256 OF THE DUMP (.gsa) THAT YtbefbkjhfkdihaaProg.lean LOADS. Nothing in Lean hashes anything: it is a label: what it is worth is what the hold of that sum in a sandbox is worth. -/
noncomputable def Try.pinned : Pinned := { name := "ytbefbkjhfkdihaa", sum := "e1e5db038197c9b61771dcce1325fc313a9f30a97aa7e2a717fe070ea2acb31b", checked := Try.checked }
namespace Rows
def none {H : Type} : Left H := { results := [], args := [] }

/-- 'garthlaw14.PlaceBlocks': WHATEVER THE INPUT: true; the input reads as it did. -/
def placeBlocksSpec : ChangeSpec := { name := "placeBlocks", fn := fun _ => fun
  | [d1, d2, d3, d4] => { results := [.lit (.bool true)], args := [d1, d2, d3, d4] }
  | _ => none }
def placeBlocksRow : OpenClaim := { program := "ytbefbkjhfkdihaa", sum := "e1e5db038197c9b61771dcce1325fc313a9f30a97aa7e2a717fe070ea2acb31b", func := "garth/garthlaw14.PlaceBlocks", spec := "placeBlocks", apart := false }
def PlaceBlocksSaid : Prop := placeBlocksRow.holds Try.pinned (OpenSpec.ofChange placeBlocksSpec)

/-- ITS FALSE NEIGHBOUR: 'it returns false'. Refute it at one input. -/
def placeBlocksWrong : ChangeSpec := { name := "placeBlocks", fn := fun _ => fun
  | [d1, d2, d3, d4] => { results := [.lit (.bool false)], args := [d1, d2, d3, d4] }
  | _ => none }
def PlaceBlocksWrongFalsely : Prop := placeBlocksRow.holds Try.pinned (OpenSpec.ofChange placeBlocksWrong)

/-- 'garthlaw14.PlaceBack': WHATEVER THE INPUT: true; the input reads as it did. -/
def placeBackSpec : ChangeSpec := { name := "placeBack", fn := fun _ => fun
  | [d1, d2, d3] => { results := [.lit (.bool true)], args := [d1, d2, d3] }
  | _ => none }
def placeBackRow : OpenClaim := { program := "ytbefbkjhfkdihaa", sum := "e1e5db038197c9b61771dcce1325fc313a9f30a97aa7e2a717fe070ea2acb31b", func := "garth/garthlaw14.PlaceBack", spec := "placeBack", apart := false }
def PlaceBackSaid : Prop := placeBackRow.holds Try.pinned (OpenSpec.ofChange placeBackSpec)

/-- ITS FALSE NEIGHBOUR: 'it returns false'. Refute it at one input. -/
def placeBackWrong : ChangeSpec := { name := "placeBack", fn := fun _ => fun
  | [d1, d2, d3] => { results := [.lit (.bool false)], args := [d1, d2, d3] }
  | _ => none }
def PlaceBackWrongFalsely : Prop := placeBackRow.holds Try.pinned (OpenSpec.ofChange placeBackWrong)

/-- 'garthlaw14.PlaceRegions': WHATEVER THE INPUT: true; the input reads as it did. -/
def placeRegionsSpec : ChangeSpec := { name := "placeRegions", fn := fun _ => fun
  | [d1, d2, d3, d4, d5] => { results := [.lit (.bool true)], args := [d1, d2, d3, d4, d5] }
  | _ => none }
def placeRegionsRow : OpenClaim := { program := "ytbefbkjhfkdihaa", sum := "e1e5db038197c9b61771dcce1325fc313a9f30a97aa7e2a717fe070ea2acb31b", func := "garth/garthlaw14.PlaceRegions", spec := "placeRegions", apart := false }
def PlaceRegionsSaid : Prop := placeRegionsRow.holds Try.pinned (OpenSpec.ofChange placeRegionsSpec)

/-- ITS FALSE NEIGHBOUR: 'it returns false'. Refute it at one input. -/
def placeRegionsWrong : ChangeSpec := { name := "placeRegions", fn := fun _ => fun
  | [d1, d2, d3, d4, d5] => { results := [.lit (.bool false)], args := [d1, d2, d3, d4, d5] }
  | _ => none }
def PlaceRegionsWrongFalsely : Prop := placeRegionsRow.holds Try.pinned (OpenSpec.ofChange placeRegionsWrong)

/-- 'garthlaw14.PlaceApart': WHATEVER THE INPUT: true; the input reads as it did. -/
def placeApartSpec : ChangeSpec := { name := "placeApart", fn := fun _ => fun
  | [d1, d2] => { results := [.lit (.bool true)], args := [d1, d2] }
  | _ => none }
def placeApartRow : OpenClaim := { program := "ytbefbkjhfkdihaa", sum := "e1e5db038197c9b61771dcce1325fc313a9f30a97aa7e2a717fe070ea2acb31b", func := "garth/garthlaw14.PlaceApart", spec := "placeApart", apart := false }
def PlaceApartSaid : Prop := placeApartRow.holds Try.pinned (OpenSpec.ofChange placeApartSpec)

/-- ITS FALSE NEIGHBOUR: 'it returns false'. Refute it at one input. -/
def placeApartWrong : ChangeSpec := { name := "placeApart", fn := fun _ => fun
  | [d1, d2] => { results := [.lit (.bool false)], args := [d1, d2] }
  | _ => none }
def PlaceApartWrongFalsely : Prop := placeApartRow.holds Try.pinned (OpenSpec.ofChange placeApartWrong)

/-- 'garthlaw14.PlacePlaces': WHATEVER THE INPUT: true; the input reads as it did. -/
def placePlacesSpec : ChangeSpec := { name := "placePlaces", fn := fun _ => fun
  | [d1, d2, d3, d4] => { results := [.lit (.bool true)], args := [d1, d2, d3, d4] }
  | _ => none }
def placePlacesRow : OpenClaim := { program := "ytbefbkjhfkdihaa", sum := "e1e5db038197c9b61771dcce1325fc313a9f30a97aa7e2a717fe070ea2acb31b", func := "garth/garthlaw14.PlacePlaces", spec := "placePlaces", apart := false }
def PlacePlacesSaid : Prop := placePlacesRow.holds Try.pinned (OpenSpec.ofChange placePlacesSpec)

/-- ITS FALSE NEIGHBOUR: 'it returns false'. Refute it at one input. -/
def placePlacesWrong : ChangeSpec := { name := "placePlaces", fn := fun _ => fun
  | [d1, d2, d3, d4] => { results := [.lit (.bool false)], args := [d1, d2, d3, d4] }
  | _ => none }
def PlacePlacesWrongFalsely : Prop := placePlacesRow.holds Try.pinned (OpenSpec.ofChange placePlacesWrong)

/- THE SECOND FORM. 'bulk': how many values and letters a reading holds, each counted each time it is reached (what is shared counts as often as it is met; a slice's spare places count too). A statement '..UptoSaid' is the law's where the arguments, and the package variables that the reading takes, are together of bulk at most 1048576: NARROWER than '..Said'. Prove '..Said' where nothing that the law and all that it calls make is longer than what came in: it says more and counts as full. Else prove '..UptoSaid'. A law counts once. -/
mutual
def uptoBulk {H : Type} : DataW H → Nat
  | .lit (.string bytes) => bytes.length + 1
  | .lit _ => 1
  | .nil => 1
  | .ptr d => uptoBulk d + 1
  | .slice elems spare => uptoBulkAll elems + uptoBulkAll spare + 1
  | .agg parts => uptoBulkAll parts + 1
  | .iface _ d => uptoBulk d + 1
  | .map entries => uptoBulkEntries entries + 1
  | .held _ => 1
def uptoBulkAll {H : Type} : List (DataW H) → Nat
  | [] => 0
  | d :: r => uptoBulk d + uptoBulkAll r
def uptoBulkEntries {H : Type} : List (Lit × DataW H) → Nat
  | [] => 0
  | x :: r => uptoBulkEntry x + uptoBulkEntries r
def uptoBulkEntry {H : Type} : Lit × DataW H → Nat
  | (.string bytes, d) => bytes.length + uptoBulk d + 1
  | (_, d) => uptoBulk d + 1
 end
def uptoSmall : (H : Type) → List (DataW H) → Bool := fun _ ds => decide (uptoBulkAll ds ≤ 1048576)
def OpenSpec.upto (s : _root_.Go.ChangeSpec) : _root_.Go.OpenSpec := { _root_.Go.OpenSpec.ofChange s with cond := some uptoSmall }

/-- 'garthlaw14.PlaceBlocks', WHERE WHAT IT READS IS OF BULK AT MOST 1048576: true; the input reads as it did. -/
def placeBlocksUptoRow : OpenClaim := { program := "ytbefbkjhfkdihaa", sum := "e1e5db038197c9b61771dcce1325fc313a9f30a97aa7e2a717fe070ea2acb31b", func := "garth/garthlaw14.PlaceBlocks", spec := "placeBlocks", apart := false, narrowed := true }
def PlaceBlocksUptoSaid : Prop := placeBlocksUptoRow.holds Try.pinned (OpenSpec.upto placeBlocksSpec)

/-- 'garthlaw14.PlaceBack', WHERE WHAT IT READS IS OF BULK AT MOST 1048576: true; the input reads as it did. -/
def placeBackUptoRow : OpenClaim := { program := "ytbefbkjhfkdihaa", sum := "e1e5db038197c9b61771dcce1325fc313a9f30a97aa7e2a717fe070ea2acb31b", func := "garth/garthlaw14.PlaceBack", spec := "placeBack", apart := false, narrowed := true }
def PlaceBackUptoSaid : Prop := placeBackUptoRow.holds Try.pinned (OpenSpec.upto placeBackSpec)

/-- 'garthlaw14.PlaceRegions', WHERE WHAT IT READS IS OF BULK AT MOST 1048576: true; the input reads as it did. -/
def placeRegionsUptoRow : OpenClaim := { program := "ytbefbkjhfkdihaa", sum := "e1e5db038197c9b61771dcce1325fc313a9f30a97aa7e2a717fe070ea2acb31b", func := "garth/garthlaw14.PlaceRegions", spec := "placeRegions", apart := false, narrowed := true }
def PlaceRegionsUptoSaid : Prop := placeRegionsUptoRow.holds Try.pinned (OpenSpec.upto placeRegionsSpec)

/-- 'garthlaw14.PlaceApart', WHERE WHAT IT READS IS OF BULK AT MOST 1048576: true; the input reads as it did. -/
def placeApartUptoRow : OpenClaim := { program := "ytbefbkjhfkdihaa", sum := "e1e5db038197c9b61771dcce1325fc313a9f30a97aa7e2a717fe070ea2acb31b", func := "garth/garthlaw14.PlaceApart", spec := "placeApart", apart := false, narrowed := true }
def PlaceApartUptoSaid : Prop := placeApartUptoRow.holds Try.pinned (OpenSpec.upto placeApartSpec)

/-- 'garthlaw14.PlacePlaces', WHERE WHAT IT READS IS OF BULK AT MOST 1048576: true; the input reads as it did. -/
def placePlacesUptoRow : OpenClaim := { program := "ytbefbkjhfkdihaa", sum := "e1e5db038197c9b61771dcce1325fc313a9f30a97aa7e2a717fe070ea2acb31b", func := "garth/garthlaw14.PlacePlaces", spec := "placePlaces", apart := false, narrowed := true }
def PlacePlacesUptoSaid : Prop := placePlacesUptoRow.holds Try.pinned (OpenSpec.upto placePlacesSpec)

end Rows
end Go.Proofs.Ytbefbkjhfkdihaa
