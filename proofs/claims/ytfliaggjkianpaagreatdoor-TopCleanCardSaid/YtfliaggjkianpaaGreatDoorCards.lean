/-
  DERIVED. GIVEN WITH THE SEED: THE CARDS: each row of YtfliaggjkianpaaGreatDoorRows.lean that lists a variable, with what it lists TIED to the program's text (the seventh form; the later family's looks); each row that meets fmt, with fmt's text TOLD by the authors' own Lean function (tested against real Go, not proved from fmt's source: count such statements apart). THE CARD IS WHAT COUNTS. Prove the row's statement (the work); the ties are given (YtfliaggjkianpaaGreatDoorTie.lean); close each card by the builder's one call (the guide's Derived/Test/ToyasCard.lean, 'card_holds'). Laid BY PROGRAM, IN A SANDBOX (cutbox-door.mjs). By AI agents, Wed Nov 11 2026. No macro, syntax, notation, axiom, sorry.
-/
import Derived.Test.YtfliaggjkianpaaGreatDoorRows
import GoSem.ClaimSeven
namespace Go.Proofs.YtfliaggjkianpaaGreatDoor
namespace Rows

/-- THE TIED CARD OF 'garthtop.TopQuiet'. -/
def topQuietCard : Claim7 := { stood := { row := topQuietRow, standIns := [], harness := (true, "5a70edbbf368e8a362b195402367bad748d27e07159349563042fa7f79aa7cc8"), looks := false }, kinds := [], alts := [], laidByText := true, laidKinds := [.data], laidTests := true, laidLooks := .later }
def TopQuietCardSaid : Prop := Claim7.holds Tryz.pinned (.plain (OpenSpec.ofChange topQuietSpec)) topQuietCard

/-- THE TIED CARD OF 'garthtop.TopClean'. -/
def topCleanCard : Claim7 := { stood := { row := topCleanRow, standIns := [], harness := (true, "5a70edbbf368e8a362b195402367bad748d27e07159349563042fa7f79aa7cc8"), looks := false }, kinds := [], alts := [], laidByText := true, laidKinds := [.data], laidTests := true, laidLooks := .later }
def TopCleanCardSaid : Prop := Claim7.holds Tryz.pinned (.plain (OpenSpec.ofChange topCleanSpec)) topCleanCard

/-- THE TIED CARD OF 'garthtop.TopAgain'. -/
def topAgainCard : Claim7 := { stood := { row := topAgainRow, standIns := [], harness := (true, "5a70edbbf368e8a362b195402367bad748d27e07159349563042fa7f79aa7cc8"), looks := false }, kinds := [], alts := [], laidByText := true, laidKinds := [.data], laidTests := true, laidLooks := .later }
def TopAgainCardSaid : Prop := Claim7.holds Tryz.pinned (.plain (OpenSpec.ofChange topAgainSpec)) topAgainCard

/-- THE TIED CARD OF 'garthtop.TopBad'. -/
def topBadCard : Claim7 := { stood := { row := topBadRow, standIns := [], harness := (true, "5a70edbbf368e8a362b195402367bad748d27e07159349563042fa7f79aa7cc8"), looks := false }, kinds := [], alts := [], laidByText := true, laidKinds := [.data], laidTests := true, laidLooks := .later }
def TopBadCardSaid : Prop := Claim7.holds Tryz.pinned (.plain (OpenSpec.ofChange topBadSpec)) topBadCard

/-- THE TIED CARD OF 'garthtop.TopQuota'. -/
def topQuotaCard : Claim7 := { stood := { row := topQuotaRow, standIns := [], harness := (true, "5a70edbbf368e8a362b195402367bad748d27e07159349563042fa7f79aa7cc8"), looks := false }, kinds := [], alts := [], laidByText := true, laidKinds := [.data], laidTests := true, laidLooks := .later }
def TopQuotaCardSaid : Prop := Claim7.holds Tryz.pinned (.plain (OpenSpec.ofChange topQuotaSpec)) topQuotaCard

/-- THE SECOND FORM's CARD OF 'garthtop.TopQuiet'. -/
def topQuietUptoCard : Claim7 := { stood := { row := topQuietUptoRow, standIns := [], harness := (true, "5a70edbbf368e8a362b195402367bad748d27e07159349563042fa7f79aa7cc8"), looks := false }, kinds := [], alts := [], laidByText := true, laidKinds := [.data], laidTests := true, laidLooks := .later }
def TopQuietUptoCardSaid : Prop := Claim7.holds Tryz.pinned (.plain (OpenSpec.upto topQuietSpec)) topQuietUptoCard

/-- THE SECOND FORM's CARD OF 'garthtop.TopClean'. -/
def topCleanUptoCard : Claim7 := { stood := { row := topCleanUptoRow, standIns := [], harness := (true, "5a70edbbf368e8a362b195402367bad748d27e07159349563042fa7f79aa7cc8"), looks := false }, kinds := [], alts := [], laidByText := true, laidKinds := [.data], laidTests := true, laidLooks := .later }
def TopCleanUptoCardSaid : Prop := Claim7.holds Tryz.pinned (.plain (OpenSpec.upto topCleanSpec)) topCleanUptoCard

/-- THE SECOND FORM's CARD OF 'garthtop.TopAgain'. -/
def topAgainUptoCard : Claim7 := { stood := { row := topAgainUptoRow, standIns := [], harness := (true, "5a70edbbf368e8a362b195402367bad748d27e07159349563042fa7f79aa7cc8"), looks := false }, kinds := [], alts := [], laidByText := true, laidKinds := [.data], laidTests := true, laidLooks := .later }
def TopAgainUptoCardSaid : Prop := Claim7.holds Tryz.pinned (.plain (OpenSpec.upto topAgainSpec)) topAgainUptoCard

/-- THE SECOND FORM's CARD OF 'garthtop.TopBad'. -/
def topBadUptoCard : Claim7 := { stood := { row := topBadUptoRow, standIns := [], harness := (true, "5a70edbbf368e8a362b195402367bad748d27e07159349563042fa7f79aa7cc8"), looks := false }, kinds := [], alts := [], laidByText := true, laidKinds := [.data], laidTests := true, laidLooks := .later }
def TopBadUptoCardSaid : Prop := Claim7.holds Tryz.pinned (.plain (OpenSpec.upto topBadSpec)) topBadUptoCard

/-- THE SECOND FORM's CARD OF 'garthtop.TopQuota'. -/
def topQuotaUptoCard : Claim7 := { stood := { row := topQuotaUptoRow, standIns := [], harness := (true, "5a70edbbf368e8a362b195402367bad748d27e07159349563042fa7f79aa7cc8"), looks := false }, kinds := [], alts := [], laidByText := true, laidKinds := [.data], laidTests := true, laidLooks := .later }
def TopQuotaUptoCardSaid : Prop := Claim7.holds Tryz.pinned (.plain (OpenSpec.upto topQuotaSpec)) topQuotaUptoCard
end Rows
end Go.Proofs.YtfliaggjkianpaaGreatDoor
