/-
  DERIVED. GIVEN WITH THE SEED: THE CARDS: each row of YtlacnkjkcikodaaDoorRows.lean that lists a variable, with what it lists TIED to the program's text (the seventh form; the later family's looks); each row that meets fmt, with fmt's text TOLD by the authors' own Lean function (tested against real Go, not proved from fmt's source: count such statements apart). THE CARD IS WHAT COUNTS. Prove the row's statement (the work); the ties are given (YtlacnkjkcikodaaDoorTie.lean); close each card by the builder's one call (the guide's Derived/Test/ToyasCard.lean, 'card_holds'). Laid BY PROGRAM, IN A SANDBOX (cutbox-door.mjs). By AI agents, Wed Nov 11 2026. No macro, syntax, notation, axiom, sorry.
-/
import Derived.Test.YtlacnkjkcikodaaDoorRows
import GoSem.ClaimSeven
namespace Go.Proofs.YtlacnkjkcikodaaDoor
namespace Rows

/-- THE TIED CARD OF 'wickerlaw10.UnitsTell'. -/
def unitsTellCard : Claim7 := { stood := { row := unitsTellRow, standIns := [], harness := (true, "89abc19328727d928b1072c3e57a07c25fd2f401f2357e5a3c2f8e765eb4ff5b"), looks := true }, kinds := [], alts := [], laidByText := true, laidKinds := [.data, .data, .data], laidTests := true, laidLooks := .later }
def UnitsTellCardSaid : Prop := Claim7.holds Tryd.pinned (.plain (OpenSpec.ofChange unitsTellSpec)) unitsTellCard

/-- THE TIED CARD OF 'wickerlaw14.MeterBounds'. -/
def meterBoundsCard : Claim7 := { stood := { row := meterBoundsRow, standIns := [], harness := (true, "89abc19328727d928b1072c3e57a07c25fd2f401f2357e5a3c2f8e765eb4ff5b"), looks := true }, kinds := [], alts := [], laidByText := true, laidKinds := [.data, .data, .data], laidTests := true, laidLooks := .later }
def MeterBoundsCardSaid : Prop := Claim7.holds Tryd.pinned (.plain (OpenSpec.ofChange meterBoundsSpec)) meterBoundsCard

/-- THE TIED CARD OF 'wickerlaw14.MeterPlays'. -/
def meterPlaysCard : Claim7 := { stood := { row := meterPlaysRow, standIns := [], harness := (true, "89abc19328727d928b1072c3e57a07c25fd2f401f2357e5a3c2f8e765eb4ff5b"), looks := true }, kinds := [], alts := [], laidByText := true, laidKinds := [.data, .data, .data], laidTests := true, laidLooks := .later }
def MeterPlaysCardSaid : Prop := Claim7.holds Tryd.pinned (.plain (OpenSpec.ofChange meterPlaysSpec)) meterPlaysCard

/-- THE TIED CARD OF 'wickerlaw12.TmplChecks'. -/
def tmplChecksCard : Claim7 := { stood := { row := tmplChecksRow, standIns := [], harness := (true, "89abc19328727d928b1072c3e57a07c25fd2f401f2357e5a3c2f8e765eb4ff5b"), looks := true }, kinds := [], alts := [], laidByText := true, laidKinds := [.data, .data, .data], laidTests := true, laidLooks := .later }
def TmplChecksCardSaid : Prop := Claim7.holds Tryd.pinned (.plain (OpenSpec.ofChange tmplChecksSpec)) tmplChecksCard

/-- THE TIED CARD OF 'wickerlaw06.BnfLong'. -/
def bnfLongCard : Claim7 := { stood := { row := bnfLongRow, standIns := [], harness := (true, "89abc19328727d928b1072c3e57a07c25fd2f401f2357e5a3c2f8e765eb4ff5b"), looks := true }, kinds := [], alts := [], laidByText := true, laidKinds := [.data, .data, .data], laidTests := true, laidLooks := .later }
def BnfLongCardSaid : Prop := Claim7.holds Tryd.pinned (.plain (OpenSpec.ofChange bnfLongSpec)) bnfLongCard

/-- THE TIED CARD OF 'wickerlaw08.NullableTells'. -/
def nullableTellsCard : Claim7 := { stood := { row := nullableTellsRow, standIns := [], harness := (true, "89abc19328727d928b1072c3e57a07c25fd2f401f2357e5a3c2f8e765eb4ff5b"), looks := true }, kinds := [], alts := [], laidByText := true, laidKinds := [.data, .data, .data], laidTests := true, laidLooks := .later }
def NullableTellsCardSaid : Prop := Claim7.holds Tryd.pinned (.plain (OpenSpec.ofChange nullableTellsSpec)) nullableTellsCard

/-- THE TIED CARD OF 'wickerlaw08.NullableTrees'. -/
def nullableTreesCard : Claim7 := { stood := { row := nullableTreesRow, standIns := [], harness := (true, "89abc19328727d928b1072c3e57a07c25fd2f401f2357e5a3c2f8e765eb4ff5b"), looks := true }, kinds := [], alts := [], laidByText := true, laidKinds := [.data, .data, .data], laidTests := true, laidLooks := .later }
def NullableTreesCardSaid : Prop := Claim7.holds Tryd.pinned (.plain (OpenSpec.ofChange nullableTreesSpec)) nullableTreesCard

/-- THE TIED CARD OF 'wickerlaw06.BnfReads'. -/
def bnfReadsCard : Claim7 := { stood := { row := bnfReadsRow, standIns := [], harness := (true, "89abc19328727d928b1072c3e57a07c25fd2f401f2357e5a3c2f8e765eb4ff5b"), looks := true }, kinds := [], alts := [], laidByText := true, laidKinds := [.data, .data, .data], laidTests := true, laidLooks := .later }
def BnfReadsCardSaid : Prop := Claim7.holds Tryd.pinned (.plain (OpenSpec.ofChange bnfReadsSpec)) bnfReadsCard

/-- THE TIED CARD OF 'wickerlaw08.NullableClosed'. -/
def nullableClosedCard : Claim7 := { stood := { row := nullableClosedRow, standIns := [], harness := (true, "89abc19328727d928b1072c3e57a07c25fd2f401f2357e5a3c2f8e765eb4ff5b"), looks := true }, kinds := [], alts := [], laidByText := true, laidKinds := [.data, .data, .data], laidTests := true, laidLooks := .later }
def NullableClosedCardSaid : Prop := Claim7.holds Tryd.pinned (.plain (OpenSpec.ofChange nullableClosedSpec)) nullableClosedCard

/-- THE TIED CARD OF 'wickerlaw12.TmplPlain'. -/
def tmplPlainCard : Claim7 := { stood := { row := tmplPlainRow, standIns := [], harness := (true, "89abc19328727d928b1072c3e57a07c25fd2f401f2357e5a3c2f8e765eb4ff5b"), looks := true }, kinds := [], alts := [], laidByText := true, laidKinds := [.data, .data, .data], laidTests := true, laidLooks := .later }
def TmplPlainCardSaid : Prop := Claim7.holds Tryd.pinned (.plain (OpenSpec.ofChange tmplPlainSpec)) tmplPlainCard

/-- THE TIED CARD OF 'wickerlaw09.UsefulTells'. -/
def usefulTellsCard : Claim7 := { stood := { row := usefulTellsRow, standIns := [], harness := (true, "89abc19328727d928b1072c3e57a07c25fd2f401f2357e5a3c2f8e765eb4ff5b"), looks := true }, kinds := [], alts := [], laidByText := true, laidKinds := [.data, .data, .data], laidTests := true, laidLooks := .later }
def UsefulTellsCardSaid : Prop := Claim7.holds Tryd.pinned (.plain (OpenSpec.ofChange usefulTellsSpec)) usefulTellsCard

/-- THE TIED CARD OF 'wickerlaw06.BnfMay'. -/
def bnfMayCard : Claim7 := { stood := { row := bnfMayRow, standIns := [], harness := (true, "89abc19328727d928b1072c3e57a07c25fd2f401f2357e5a3c2f8e765eb4ff5b"), looks := true }, kinds := [], alts := [], laidByText := true, laidKinds := [.data, .data, .data], laidTests := true, laidLooks := .later }
def BnfMayCardSaid : Prop := Claim7.holds Tryd.pinned (.plain (OpenSpec.ofChange bnfMaySpec)) bnfMayCard

/-- THE SECOND FORM's CARD OF 'wickerlaw10.UnitsTell'. -/
def unitsTellUptoCard : Claim7 := { stood := { row := unitsTellUptoRow, standIns := [], harness := (true, "89abc19328727d928b1072c3e57a07c25fd2f401f2357e5a3c2f8e765eb4ff5b"), looks := true }, kinds := [], alts := [], laidByText := true, laidKinds := [.data, .data, .data], laidTests := true, laidLooks := .later }
def UnitsTellUptoCardSaid : Prop := Claim7.holds Tryd.pinned (.plain (OpenSpec.upto unitsTellSpec)) unitsTellUptoCard

/-- THE SECOND FORM's CARD OF 'wickerlaw14.MeterBounds'. -/
def meterBoundsUptoCard : Claim7 := { stood := { row := meterBoundsUptoRow, standIns := [], harness := (true, "89abc19328727d928b1072c3e57a07c25fd2f401f2357e5a3c2f8e765eb4ff5b"), looks := true }, kinds := [], alts := [], laidByText := true, laidKinds := [.data, .data, .data], laidTests := true, laidLooks := .later }
def MeterBoundsUptoCardSaid : Prop := Claim7.holds Tryd.pinned (.plain (OpenSpec.upto meterBoundsSpec)) meterBoundsUptoCard

/-- THE SECOND FORM's CARD OF 'wickerlaw14.MeterPlays'. -/
def meterPlaysUptoCard : Claim7 := { stood := { row := meterPlaysUptoRow, standIns := [], harness := (true, "89abc19328727d928b1072c3e57a07c25fd2f401f2357e5a3c2f8e765eb4ff5b"), looks := true }, kinds := [], alts := [], laidByText := true, laidKinds := [.data, .data, .data], laidTests := true, laidLooks := .later }
def MeterPlaysUptoCardSaid : Prop := Claim7.holds Tryd.pinned (.plain (OpenSpec.upto meterPlaysSpec)) meterPlaysUptoCard

/-- THE SECOND FORM's CARD OF 'wickerlaw12.TmplChecks'. -/
def tmplChecksUptoCard : Claim7 := { stood := { row := tmplChecksUptoRow, standIns := [], harness := (true, "89abc19328727d928b1072c3e57a07c25fd2f401f2357e5a3c2f8e765eb4ff5b"), looks := true }, kinds := [], alts := [], laidByText := true, laidKinds := [.data, .data, .data], laidTests := true, laidLooks := .later }
def TmplChecksUptoCardSaid : Prop := Claim7.holds Tryd.pinned (.plain (OpenSpec.upto tmplChecksSpec)) tmplChecksUptoCard

/-- THE SECOND FORM's CARD OF 'wickerlaw06.BnfLong'. -/
def bnfLongUptoCard : Claim7 := { stood := { row := bnfLongUptoRow, standIns := [], harness := (true, "89abc19328727d928b1072c3e57a07c25fd2f401f2357e5a3c2f8e765eb4ff5b"), looks := true }, kinds := [], alts := [], laidByText := true, laidKinds := [.data, .data, .data], laidTests := true, laidLooks := .later }
def BnfLongUptoCardSaid : Prop := Claim7.holds Tryd.pinned (.plain (OpenSpec.upto bnfLongSpec)) bnfLongUptoCard

/-- THE SECOND FORM's CARD OF 'wickerlaw08.NullableTells'. -/
def nullableTellsUptoCard : Claim7 := { stood := { row := nullableTellsUptoRow, standIns := [], harness := (true, "89abc19328727d928b1072c3e57a07c25fd2f401f2357e5a3c2f8e765eb4ff5b"), looks := true }, kinds := [], alts := [], laidByText := true, laidKinds := [.data, .data, .data], laidTests := true, laidLooks := .later }
def NullableTellsUptoCardSaid : Prop := Claim7.holds Tryd.pinned (.plain (OpenSpec.upto nullableTellsSpec)) nullableTellsUptoCard

/-- THE SECOND FORM's CARD OF 'wickerlaw08.NullableTrees'. -/
def nullableTreesUptoCard : Claim7 := { stood := { row := nullableTreesUptoRow, standIns := [], harness := (true, "89abc19328727d928b1072c3e57a07c25fd2f401f2357e5a3c2f8e765eb4ff5b"), looks := true }, kinds := [], alts := [], laidByText := true, laidKinds := [.data, .data, .data], laidTests := true, laidLooks := .later }
def NullableTreesUptoCardSaid : Prop := Claim7.holds Tryd.pinned (.plain (OpenSpec.upto nullableTreesSpec)) nullableTreesUptoCard

/-- THE SECOND FORM's CARD OF 'wickerlaw06.BnfReads'. -/
def bnfReadsUptoCard : Claim7 := { stood := { row := bnfReadsUptoRow, standIns := [], harness := (true, "89abc19328727d928b1072c3e57a07c25fd2f401f2357e5a3c2f8e765eb4ff5b"), looks := true }, kinds := [], alts := [], laidByText := true, laidKinds := [.data, .data, .data], laidTests := true, laidLooks := .later }
def BnfReadsUptoCardSaid : Prop := Claim7.holds Tryd.pinned (.plain (OpenSpec.upto bnfReadsSpec)) bnfReadsUptoCard

/-- THE SECOND FORM's CARD OF 'wickerlaw08.NullableClosed'. -/
def nullableClosedUptoCard : Claim7 := { stood := { row := nullableClosedUptoRow, standIns := [], harness := (true, "89abc19328727d928b1072c3e57a07c25fd2f401f2357e5a3c2f8e765eb4ff5b"), looks := true }, kinds := [], alts := [], laidByText := true, laidKinds := [.data, .data, .data], laidTests := true, laidLooks := .later }
def NullableClosedUptoCardSaid : Prop := Claim7.holds Tryd.pinned (.plain (OpenSpec.upto nullableClosedSpec)) nullableClosedUptoCard

/-- THE SECOND FORM's CARD OF 'wickerlaw12.TmplPlain'. -/
def tmplPlainUptoCard : Claim7 := { stood := { row := tmplPlainUptoRow, standIns := [], harness := (true, "89abc19328727d928b1072c3e57a07c25fd2f401f2357e5a3c2f8e765eb4ff5b"), looks := true }, kinds := [], alts := [], laidByText := true, laidKinds := [.data, .data, .data], laidTests := true, laidLooks := .later }
def TmplPlainUptoCardSaid : Prop := Claim7.holds Tryd.pinned (.plain (OpenSpec.upto tmplPlainSpec)) tmplPlainUptoCard

/-- THE SECOND FORM's CARD OF 'wickerlaw09.UsefulTells'. -/
def usefulTellsUptoCard : Claim7 := { stood := { row := usefulTellsUptoRow, standIns := [], harness := (true, "89abc19328727d928b1072c3e57a07c25fd2f401f2357e5a3c2f8e765eb4ff5b"), looks := true }, kinds := [], alts := [], laidByText := true, laidKinds := [.data, .data, .data], laidTests := true, laidLooks := .later }
def UsefulTellsUptoCardSaid : Prop := Claim7.holds Tryd.pinned (.plain (OpenSpec.upto usefulTellsSpec)) usefulTellsUptoCard

/-- THE SECOND FORM's CARD OF 'wickerlaw06.BnfMay'. -/
def bnfMayUptoCard : Claim7 := { stood := { row := bnfMayUptoRow, standIns := [], harness := (true, "89abc19328727d928b1072c3e57a07c25fd2f401f2357e5a3c2f8e765eb4ff5b"), looks := true }, kinds := [], alts := [], laidByText := true, laidKinds := [.data, .data, .data], laidTests := true, laidLooks := .later }
def BnfMayUptoCardSaid : Prop := Claim7.holds Tryd.pinned (.plain (OpenSpec.upto bnfMaySpec)) bnfMayUptoCard
end Rows
end Go.Proofs.YtlacnkjkcikodaaDoor
