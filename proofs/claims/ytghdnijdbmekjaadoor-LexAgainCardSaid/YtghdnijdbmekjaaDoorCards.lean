/-
  DERIVED. GIVEN WITH THE SEED: THE CARDS: each row of YtghdnijdbmekjaaDoorRows.lean that lists a variable, with what it lists TIED to the program's text (the seventh form; the later family's looks); each row that meets fmt, with fmt's text TOLD by the authors' own Lean function (tested against real Go, not proved from fmt's source: count such statements apart). THE CARD IS WHAT COUNTS. Prove the row's statement (the work); the ties are given (YtghdnijdbmekjaaDoorTie.lean); close each card by the builder's one call (the guide's Derived/Test/ToyasCard.lean, 'card_holds'). Laid BY PROGRAM, IN A SANDBOX (cutbox-door.mjs). By AI agents, Wed Nov 11 2026. No macro, syntax, notation, axiom, sorry.
-/
import Derived.Test.YtghdnijdbmekjaaDoorRows
import GoSem.ClaimSeven
namespace Go.Proofs.YtghdnijdbmekjaaDoor
namespace Rows

/-- THE TIED CARD OF 'wickerlaw01.NamesFresh'. -/
def namesFreshCard : Claim7 := { stood := { row := namesFreshRow, standIns := [], harness := (true, "d18173f52109d60bd39c9d6b275db72113d35a0ecc43297bde33d988b3e88863"), looks := false }, kinds := [], alts := [], laidByText := true, laidKinds := [.data, .data, .data], laidTests := true, laidLooks := .later }
def NamesFreshCardSaid : Prop := Claim7.holds Tryd.pinned (.plain (OpenSpec.ofChange namesFreshSpec)) namesFreshCard

/-- THE TIED CARD OF 'wickerlaw01.NamesTell'. -/
def namesTellCard : Claim7 := { stood := { row := namesTellRow, standIns := [], harness := (true, "d18173f52109d60bd39c9d6b275db72113d35a0ecc43297bde33d988b3e88863"), looks := false }, kinds := [], alts := [], laidByText := true, laidKinds := [.data, .data, .data], laidTests := true, laidLooks := .later }
def NamesTellCardSaid : Prop := Claim7.holds Tryd.pinned (.plain (OpenSpec.ofChange namesTellSpec)) namesTellCard

/-- THE TIED CARD OF 'wickerlaw01.NamesUnquote'. -/
def namesUnquoteCard : Claim7 := { stood := { row := namesUnquoteRow, standIns := [], harness := (true, "d18173f52109d60bd39c9d6b275db72113d35a0ecc43297bde33d988b3e88863"), looks := false }, kinds := [], alts := [], laidByText := true, laidKinds := [.data, .data, .data], laidTests := true, laidLooks := .later }
def NamesUnquoteCardSaid : Prop := Claim7.holds Tryd.pinned (.plain (OpenSpec.ofChange namesUnquoteSpec)) namesUnquoteCard

/-- THE TIED CARD OF 'wickerlaw01.NamesBack'. -/
def namesBackCard : Claim7 := { stood := { row := namesBackRow, standIns := [], harness := (true, "d18173f52109d60bd39c9d6b275db72113d35a0ecc43297bde33d988b3e88863"), looks := false }, kinds := [], alts := [], laidByText := true, laidKinds := [.data, .data, .data], laidTests := true, laidLooks := .later }
def NamesBackCardSaid : Prop := Claim7.holds Tryd.pinned (.plain (OpenSpec.ofChange namesBackSpec)) namesBackCard

/-- THE TIED CARD OF 'wickerlaw05.LexReads'. -/
def lexReadsCard : Claim7 := { stood := { row := lexReadsRow, standIns := [], harness := (true, "d18173f52109d60bd39c9d6b275db72113d35a0ecc43297bde33d988b3e88863"), looks := false }, kinds := [], alts := [], laidByText := true, laidKinds := [.data, .data, .data], laidTests := true, laidLooks := .later }
def LexReadsCardSaid : Prop := Claim7.holds Tryd.pinned (.plain (OpenSpec.ofChange lexReadsSpec)) lexReadsCard

/-- THE TIED CARD OF 'wickerlaw05.LexAgain'. -/
def lexAgainCard : Claim7 := { stood := { row := lexAgainRow, standIns := [], harness := (true, "d18173f52109d60bd39c9d6b275db72113d35a0ecc43297bde33d988b3e88863"), looks := false }, kinds := [], alts := [], laidByText := true, laidKinds := [.data, .data, .data], laidTests := true, laidLooks := .later }
def LexAgainCardSaid : Prop := Claim7.holds Tryd.pinned (.plain (OpenSpec.ofChange lexAgainSpec)) lexAgainCard

/-- THE TIED CARD OF 'wickerlaw05.LexLong'. -/
def lexLongCard : Claim7 := { stood := { row := lexLongRow, standIns := [], harness := (true, "d18173f52109d60bd39c9d6b275db72113d35a0ecc43297bde33d988b3e88863"), looks := false }, kinds := [], alts := [], laidByText := true, laidKinds := [.data, .data, .data], laidTests := true, laidLooks := .later }
def LexLongCardSaid : Prop := Claim7.holds Tryd.pinned (.plain (OpenSpec.ofChange lexLongSpec)) lexLongCard

/-- THE SECOND FORM's CARD OF 'wickerlaw01.NamesFresh'. -/
def namesFreshUptoCard : Claim7 := { stood := { row := namesFreshUptoRow, standIns := [], harness := (true, "d18173f52109d60bd39c9d6b275db72113d35a0ecc43297bde33d988b3e88863"), looks := false }, kinds := [], alts := [], laidByText := true, laidKinds := [.data, .data, .data], laidTests := true, laidLooks := .later }
def NamesFreshUptoCardSaid : Prop := Claim7.holds Tryd.pinned (.plain (OpenSpec.upto namesFreshSpec)) namesFreshUptoCard

/-- THE SECOND FORM's CARD OF 'wickerlaw01.NamesTell'. -/
def namesTellUptoCard : Claim7 := { stood := { row := namesTellUptoRow, standIns := [], harness := (true, "d18173f52109d60bd39c9d6b275db72113d35a0ecc43297bde33d988b3e88863"), looks := false }, kinds := [], alts := [], laidByText := true, laidKinds := [.data, .data, .data], laidTests := true, laidLooks := .later }
def NamesTellUptoCardSaid : Prop := Claim7.holds Tryd.pinned (.plain (OpenSpec.upto namesTellSpec)) namesTellUptoCard

/-- THE SECOND FORM's CARD OF 'wickerlaw01.NamesUnquote'. -/
def namesUnquoteUptoCard : Claim7 := { stood := { row := namesUnquoteUptoRow, standIns := [], harness := (true, "d18173f52109d60bd39c9d6b275db72113d35a0ecc43297bde33d988b3e88863"), looks := false }, kinds := [], alts := [], laidByText := true, laidKinds := [.data, .data, .data], laidTests := true, laidLooks := .later }
def NamesUnquoteUptoCardSaid : Prop := Claim7.holds Tryd.pinned (.plain (OpenSpec.upto namesUnquoteSpec)) namesUnquoteUptoCard

/-- THE SECOND FORM's CARD OF 'wickerlaw01.NamesBack'. -/
def namesBackUptoCard : Claim7 := { stood := { row := namesBackUptoRow, standIns := [], harness := (true, "d18173f52109d60bd39c9d6b275db72113d35a0ecc43297bde33d988b3e88863"), looks := false }, kinds := [], alts := [], laidByText := true, laidKinds := [.data, .data, .data], laidTests := true, laidLooks := .later }
def NamesBackUptoCardSaid : Prop := Claim7.holds Tryd.pinned (.plain (OpenSpec.upto namesBackSpec)) namesBackUptoCard

/-- THE SECOND FORM's CARD OF 'wickerlaw05.LexReads'. -/
def lexReadsUptoCard : Claim7 := { stood := { row := lexReadsUptoRow, standIns := [], harness := (true, "d18173f52109d60bd39c9d6b275db72113d35a0ecc43297bde33d988b3e88863"), looks := false }, kinds := [], alts := [], laidByText := true, laidKinds := [.data, .data, .data], laidTests := true, laidLooks := .later }
def LexReadsUptoCardSaid : Prop := Claim7.holds Tryd.pinned (.plain (OpenSpec.upto lexReadsSpec)) lexReadsUptoCard

/-- THE SECOND FORM's CARD OF 'wickerlaw05.LexAgain'. -/
def lexAgainUptoCard : Claim7 := { stood := { row := lexAgainUptoRow, standIns := [], harness := (true, "d18173f52109d60bd39c9d6b275db72113d35a0ecc43297bde33d988b3e88863"), looks := false }, kinds := [], alts := [], laidByText := true, laidKinds := [.data, .data, .data], laidTests := true, laidLooks := .later }
def LexAgainUptoCardSaid : Prop := Claim7.holds Tryd.pinned (.plain (OpenSpec.upto lexAgainSpec)) lexAgainUptoCard

/-- THE SECOND FORM's CARD OF 'wickerlaw05.LexLong'. -/
def lexLongUptoCard : Claim7 := { stood := { row := lexLongUptoRow, standIns := [], harness := (true, "d18173f52109d60bd39c9d6b275db72113d35a0ecc43297bde33d988b3e88863"), looks := false }, kinds := [], alts := [], laidByText := true, laidKinds := [.data, .data, .data], laidTests := true, laidLooks := .later }
def LexLongUptoCardSaid : Prop := Claim7.holds Tryd.pinned (.plain (OpenSpec.upto lexLongSpec)) lexLongUptoCard
end Rows
end Go.Proofs.YtghdnijdbmekjaaDoor
