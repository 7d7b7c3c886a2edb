/-
  DERIVED. GIVEN WITH THE SEED: THE CARDS: each row of YtmdjmbdeeodehaaDoorRows.lean that lists a variable, with what it lists TIED to the program's text (the seventh form; the later family's looks); each row that meets fmt, with fmt's text TOLD by the authors' own Lean function (tested against real Go, not proved from fmt's source: count such statements apart). THE CARD IS WHAT COUNTS. Prove the row's statement (the work); the ties are given (YtmdjmbdeeodehaaDoorTie.lean); close each card by the builder's one call (the guide's Derived/Test/ToyasCard.lean, 'card_holds'). Laid BY PROGRAM, IN A SANDBOX (cutbox-door.mjs). By AI agents, Wed Nov 11 2026. No macro, syntax, notation, axiom, sorry.
-/
import Derived.Test.YtmdjmbdeeodehaaDoorRows
import GoSem.ClaimSeven
namespace Go.Proofs.YtmdjmbdeeodehaaDoor
namespace Rows

/-- THE TIED CARD OF 'wickerlaw14.MeterBounds'. -/
def meterBoundsCard : Claim7 := { stood := { row := meterBoundsRow, standIns := [], harness := (true, "0c877ec8b1f63600cbff811b53e1e164aa019ccd5cd30c3b202bac2b752e5ce1"), looks := true }, kinds := [], alts := [], laidByText := true, laidKinds := [.data, .data, .data], laidTests := true, laidLooks := .later }
def MeterBoundsCardSaid : Prop := Claim7.holds Tryd.pinned (.plain (OpenSpec.ofChange meterBoundsSpec)) meterBoundsCard

/-- THE TIED CARD OF 'wickerlaw03.TreeChecks'. -/
def treeChecksCard : Claim7 := { stood := { row := treeChecksRow, standIns := [], harness := (true, "0c877ec8b1f63600cbff811b53e1e164aa019ccd5cd30c3b202bac2b752e5ce1"), looks := true }, kinds := [], alts := [], laidByText := true, laidKinds := [.data, .data, .data], laidTests := true, laidLooks := .later }
def TreeChecksCardSaid : Prop := Claim7.holds Tryd.pinned (.plain (OpenSpec.ofChange treeChecksSpec)) treeChecksCard

/-- THE TIED CARD OF 'wickerlaw03.TreeDerives'. -/
def treeDerivesCard : Claim7 := { stood := { row := treeDerivesRow, standIns := [], harness := (true, "0c877ec8b1f63600cbff811b53e1e164aa019ccd5cd30c3b202bac2b752e5ce1"), looks := true }, kinds := [], alts := [], laidByText := true, laidKinds := [.data, .data, .data], laidTests := true, laidLooks := .later }
def TreeDerivesCardSaid : Prop := Claim7.holds Tryd.pinned (.plain (OpenSpec.ofChange treeDerivesSpec)) treeDerivesCard

/-- THE TIED CARD OF 'wickerlaw14.MeterPlays'. -/
def meterPlaysCard : Claim7 := { stood := { row := meterPlaysRow, standIns := [], harness := (true, "0c877ec8b1f63600cbff811b53e1e164aa019ccd5cd30c3b202bac2b752e5ce1"), looks := true }, kinds := [], alts := [], laidByText := true, laidKinds := [.data, .data, .data], laidTests := true, laidLooks := .later }
def MeterPlaysCardSaid : Prop := Claim7.holds Tryd.pinned (.plain (OpenSpec.ofChange meterPlaysSpec)) meterPlaysCard

/-- THE TIED CARD OF 'wickerlaw03.TreeTells'. -/
def treeTellsCard : Claim7 := { stood := { row := treeTellsRow, standIns := [], harness := (true, "0c877ec8b1f63600cbff811b53e1e164aa019ccd5cd30c3b202bac2b752e5ce1"), looks := true }, kinds := [], alts := [], laidByText := true, laidKinds := [.data, .data, .data], laidTests := true, laidLooks := .later }
def TreeTellsCardSaid : Prop := Claim7.holds Tryd.pinned (.plain (OpenSpec.ofChange treeTellsSpec)) treeTellsCard

/-- THE TIED CARD OF 'wickerlaw12.TmplChecks'. -/
def tmplChecksCard : Claim7 := { stood := { row := tmplChecksRow, standIns := [], harness := (true, "0c877ec8b1f63600cbff811b53e1e164aa019ccd5cd30c3b202bac2b752e5ce1"), looks := true }, kinds := [], alts := [], laidByText := true, laidKinds := [.data, .data, .data], laidTests := true, laidLooks := .later }
def TmplChecksCardSaid : Prop := Claim7.holds Tryd.pinned (.plain (OpenSpec.ofChange tmplChecksSpec)) tmplChecksCard

/-- THE TIED CARD OF 'wickerlaw06.BnfLong'. -/
def bnfLongCard : Claim7 := { stood := { row := bnfLongRow, standIns := [], harness := (true, "0c877ec8b1f63600cbff811b53e1e164aa019ccd5cd30c3b202bac2b752e5ce1"), looks := true }, kinds := [], alts := [], laidByText := true, laidKinds := [.data, .data, .data], laidTests := true, laidLooks := .later }
def BnfLongCardSaid : Prop := Claim7.holds Tryd.pinned (.plain (OpenSpec.ofChange bnfLongSpec)) bnfLongCard

/-- THE TIED CARD OF 'wickerlaw08.NullableTells'. -/
def nullableTellsCard : Claim7 := { stood := { row := nullableTellsRow, standIns := [], harness := (true, "0c877ec8b1f63600cbff811b53e1e164aa019ccd5cd30c3b202bac2b752e5ce1"), looks := true }, kinds := [], alts := [], laidByText := true, laidKinds := [.data, .data, .data], laidTests := true, laidLooks := .later }
def NullableTellsCardSaid : Prop := Claim7.holds Tryd.pinned (.plain (OpenSpec.ofChange nullableTellsSpec)) nullableTellsCard

/-- THE TIED CARD OF 'wickerlaw08.NullableTrees'. -/
def nullableTreesCard : Claim7 := { stood := { row := nullableTreesRow, standIns := [], harness := (true, "0c877ec8b1f63600cbff811b53e1e164aa019ccd5cd30c3b202bac2b752e5ce1"), looks := true }, kinds := [], alts := [], laidByText := true, laidKinds := [.data, .data, .data], laidTests := true, laidLooks := .later }
def NullableTreesCardSaid : Prop := Claim7.holds Tryd.pinned (.plain (OpenSpec.ofChange nullableTreesSpec)) nullableTreesCard

/-- THE TIED CARD OF 'wickerlaw06.BnfReads'. -/
def bnfReadsCard : Claim7 := { stood := { row := bnfReadsRow, standIns := [], harness := (true, "0c877ec8b1f63600cbff811b53e1e164aa019ccd5cd30c3b202bac2b752e5ce1"), looks := true }, kinds := [], alts := [], laidByText := true, laidKinds := [.data, .data, .data], laidTests := true, laidLooks := .later }
def BnfReadsCardSaid : Prop := Claim7.holds Tryd.pinned (.plain (OpenSpec.ofChange bnfReadsSpec)) bnfReadsCard

/-- THE TIED CARD OF 'wickerlaw08.NullableClosed'. -/
def nullableClosedCard : Claim7 := { stood := { row := nullableClosedRow, standIns := [], harness := (true, "0c877ec8b1f63600cbff811b53e1e164aa019ccd5cd30c3b202bac2b752e5ce1"), looks := true }, kinds := [], alts := [], laidByText := true, laidKinds := [.data, .data, .data], laidTests := true, laidLooks := .later }
def NullableClosedCardSaid : Prop := Claim7.holds Tryd.pinned (.plain (OpenSpec.ofChange nullableClosedSpec)) nullableClosedCard

/-- THE TIED CARD OF 'wickerlaw12.TmplPlain'. -/
def tmplPlainCard : Claim7 := { stood := { row := tmplPlainRow, standIns := [], harness := (true, "0c877ec8b1f63600cbff811b53e1e164aa019ccd5cd30c3b202bac2b752e5ce1"), looks := true }, kinds := [], alts := [], laidByText := true, laidKinds := [.data, .data, .data], laidTests := true, laidLooks := .later }
def TmplPlainCardSaid : Prop := Claim7.holds Tryd.pinned (.plain (OpenSpec.ofChange tmplPlainSpec)) tmplPlainCard

/-- THE SECOND FORM's CARD OF 'wickerlaw14.MeterBounds'. -/
def meterBoundsUptoCard : Claim7 := { stood := { row := meterBoundsUptoRow, standIns := [], harness := (true, "0c877ec8b1f63600cbff811b53e1e164aa019ccd5cd30c3b202bac2b752e5ce1"), looks := true }, kinds := [], alts := [], laidByText := true, laidKinds := [.data, .data, .data], laidTests := true, laidLooks := .later }
def MeterBoundsUptoCardSaid : Prop := Claim7.holds Tryd.pinned (.plain (OpenSpec.upto meterBoundsSpec)) meterBoundsUptoCard

/-- THE SECOND FORM's CARD OF 'wickerlaw03.TreeChecks'. -/
def treeChecksUptoCard : Claim7 := { stood := { row := treeChecksUptoRow, standIns := [], harness := (true, "0c877ec8b1f63600cbff811b53e1e164aa019ccd5cd30c3b202bac2b752e5ce1"), looks := true }, kinds := [], alts := [], laidByText := true, laidKinds := [.data, .data, .data], laidTests := true, laidLooks := .later }
def TreeChecksUptoCardSaid : Prop := Claim7.holds Tryd.pinned (.plain (OpenSpec.upto treeChecksSpec)) treeChecksUptoCard

/-- THE SECOND FORM's CARD OF 'wickerlaw03.TreeDerives'. -/
def treeDerivesUptoCard : Claim7 := { stood := { row := treeDerivesUptoRow, standIns := [], harness := (true, "0c877ec8b1f63600cbff811b53e1e164aa019ccd5cd30c3b202bac2b752e5ce1"), looks := true }, kinds := [], alts := [], laidByText := true, laidKinds := [.data, .data, .data], laidTests := true, laidLooks := .later }
def TreeDerivesUptoCardSaid : Prop := Claim7.holds Tryd.pinned (.plain (OpenSpec.upto treeDerivesSpec)) treeDerivesUptoCard

/-- THE SECOND FORM's CARD OF 'wickerlaw14.MeterPlays'. -/
def meterPlaysUptoCard : Claim7 := { stood := { row := meterPlaysUptoRow, standIns := [], harness := (true, "0c877ec8b1f63600cbff811b53e1e164aa019ccd5cd30c3b202bac2b752e5ce1"), looks := true }, kinds := [], alts := [], laidByText := true, laidKinds := [.data, .data, .data], laidTests := true, laidLooks := .later }
def MeterPlaysUptoCardSaid : Prop := Claim7.holds Tryd.pinned (.plain (OpenSpec.upto meterPlaysSpec)) meterPlaysUptoCard

/-- THE SECOND FORM's CARD OF 'wickerlaw03.TreeTells'. -/
def treeTellsUptoCard : Claim7 := { stood := { row := treeTellsUptoRow, standIns := [], harness := (true, "0c877ec8b1f63600cbff811b53e1e164aa019ccd5cd30c3b202bac2b752e5ce1"), looks := true }, kinds := [], alts := [], laidByText := true, laidKinds := [.data, .data, .data], laidTests := true, laidLooks := .later }
def TreeTellsUptoCardSaid : Prop := Claim7.holds Tryd.pinned (.plain (OpenSpec.upto treeTellsSpec)) treeTellsUptoCard

/-- THE SECOND FORM's CARD OF 'wickerlaw12.TmplChecks'. -/
def tmplChecksUptoCard : Claim7 := { stood := { row := tmplChecksUptoRow, standIns := [], harness := (true, "0c877ec8b1f63600cbff811b53e1e164aa019ccd5cd30c3b202bac2b752e5ce1"), looks := true }, kinds := [], alts := [], laidByText := true, laidKinds := [.data, .data, .data], laidTests := true, laidLooks := .later }
def TmplChecksUptoCardSaid : Prop := Claim7.holds Tryd.pinned (.plain (OpenSpec.upto tmplChecksSpec)) tmplChecksUptoCard

/-- THE SECOND FORM's CARD OF 'wickerlaw06.BnfLong'. -/
def bnfLongUptoCard : Claim7 := { stood := { row := bnfLongUptoRow, standIns := [], harness := (true, "0c877ec8b1f63600cbff811b53e1e164aa019ccd5cd30c3b202bac2b752e5ce1"), looks := true }, kinds := [], alts := [], laidByText := true, laidKinds := [.data, .data, .data], laidTests := true, laidLooks := .later }
def BnfLongUptoCardSaid : Prop := Claim7.holds Tryd.pinned (.plain (OpenSpec.upto bnfLongSpec)) bnfLongUptoCard

/-- THE SECOND FORM's CARD OF 'wickerlaw08.NullableTells'. -/
def nullableTellsUptoCard : Claim7 := { stood := { row := nullableTellsUptoRow, standIns := [], harness := (true, "0c877ec8b1f63600cbff811b53e1e164aa019ccd5cd30c3b202bac2b752e5ce1"), looks := true }, kinds := [], alts := [], laidByText := true, laidKinds := [.data, .data, .data], laidTests := true, laidLooks := .later }
def NullableTellsUptoCardSaid : Prop := Claim7.holds Tryd.pinned (.plain (OpenSpec.upto nullableTellsSpec)) nullableTellsUptoCard

/-- THE SECOND FORM's CARD OF 'wickerlaw08.NullableTrees'. -/
def nullableTreesUptoCard : Claim7 := { stood := { row := nullableTreesUptoRow, standIns := [], harness := (true, "0c877ec8b1f63600cbff811b53e1e164aa019ccd5cd30c3b202bac2b752e5ce1"), looks := true }, kinds := [], alts := [], laidByText := true, laidKinds := [.data, .data, .data], laidTests := true, laidLooks := .later }
def NullableTreesUptoCardSaid : Prop := Claim7.holds Tryd.pinned (.plain (OpenSpec.upto nullableTreesSpec)) nullableTreesUptoCard

/-- THE SECOND FORM's CARD OF 'wickerlaw06.BnfReads'. -/
def bnfReadsUptoCard : Claim7 := { stood := { row := bnfReadsUptoRow, standIns := [], harness := (true, "0c877ec8b1f63600cbff811b53e1e164aa019ccd5cd30c3b202bac2b752e5ce1"), looks := true }, kinds := [], alts := [], laidByText := true, laidKinds := [.data, .data, .data], laidTests := true, laidLooks := .later }
def BnfReadsUptoCardSaid : Prop := Claim7.holds Tryd.pinned (.plain (OpenSpec.upto bnfReadsSpec)) bnfReadsUptoCard

/-- THE SECOND FORM's CARD OF 'wickerlaw08.NullableClosed'. -/
def nullableClosedUptoCard : Claim7 := { stood := { row := nullableClosedUptoRow, standIns := [], harness := (true, "0c877ec8b1f63600cbff811b53e1e164aa019ccd5cd30c3b202bac2b752e5ce1"), looks := true }, kinds := [], alts := [], laidByText := true, laidKinds := [.data, .data, .data], laidTests := true, laidLooks := .later }
def NullableClosedUptoCardSaid : Prop := Claim7.holds Tryd.pinned (.plain (OpenSpec.upto nullableClosedSpec)) nullableClosedUptoCard

/-- THE SECOND FORM's CARD OF 'wickerlaw12.TmplPlain'. -/
def tmplPlainUptoCard : Claim7 := { stood := { row := tmplPlainUptoRow, standIns := [], harness := (true, "0c877ec8b1f63600cbff811b53e1e164aa019ccd5cd30c3b202bac2b752e5ce1"), looks := true }, kinds := [], alts := [], laidByText := true, laidKinds := [.data, .data, .data], laidTests := true, laidLooks := .later }
def TmplPlainUptoCardSaid : Prop := Claim7.holds Tryd.pinned (.plain (OpenSpec.upto tmplPlainSpec)) tmplPlainUptoCard
end Rows
end Go.Proofs.YtmdjmbdeeodehaaDoor
