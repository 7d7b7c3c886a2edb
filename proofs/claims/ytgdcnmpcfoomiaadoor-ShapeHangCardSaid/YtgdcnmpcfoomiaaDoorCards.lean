/-
  DERIVED. GIVEN WITH THE SEED: THE CARDS: each row of YtgdcnmpcfoomiaaDoorRows.lean that lists a variable, with what it lists TIED to the program's text (the seventh form; the later family's looks); each row that meets fmt, with fmt's text TOLD by the authors' own Lean function (tested against real Go, not proved from fmt's source: count such statements apart). THE CARD IS WHAT COUNTS. Prove the row's statement (the work); the ties are given (YtgdcnmpcfoomiaaDoorTie.lean); close each card by the builder's one call (the guide's Derived/Test/ToyasCard.lean, 'card_holds'). Laid BY PROGRAM, IN A SANDBOX (cutbox-door.mjs). By AI agents, Wed Nov 11 2026. No macro, syntax, notation, axiom, sorry.
-/
import Derived.Test.YtgdcnmpcfoomiaaDoorRows
import GoSem.ClaimSeven
namespace Go.Proofs.YtgdcnmpcfoomiaaDoor
namespace Rows

/-- THE TIED CARD OF 'wickerlaw04.ShapeTells'. -/
def shapeTellsCard : Claim7 := { stood := { row := shapeTellsRow, standIns := [], harness := (true, "dbcb39fb42b103b2db4ac0b36b29ec61e8607bd03254c021b0261db2afc69120"), looks := false }, kinds := [], alts := [], laidByText := true, laidKinds := [.data, .data, .data], laidTests := true, laidLooks := .later }
def ShapeTellsCardSaid : Prop := Claim7.holds Tryd.pinned (.plain (OpenSpec.ofChange shapeTellsSpec)) shapeTellsCard

/-- THE TIED CARD OF 'wickerlaw04.ShapeHang'. -/
def shapeHangCard : Claim7 := { stood := { row := shapeHangRow, standIns := [], harness := (true, "dbcb39fb42b103b2db4ac0b36b29ec61e8607bd03254c021b0261db2afc69120"), looks := false }, kinds := [], alts := [], laidByText := true, laidKinds := [.data, .data, .data], laidTests := true, laidLooks := .later }
def ShapeHangCardSaid : Prop := Claim7.holds Tryd.pinned (.plain (OpenSpec.ofChange shapeHangSpec)) shapeHangCard

/-- THE TIED CARD OF 'wickerlaw02.GramFinds'. -/
def gramFindsCard : Claim7 := { stood := { row := gramFindsRow, standIns := [], harness := (true, "dbcb39fb42b103b2db4ac0b36b29ec61e8607bd03254c021b0261db2afc69120"), looks := false }, kinds := [], alts := [], laidByText := true, laidKinds := [.data, .data, .data], laidTests := true, laidLooks := .later }
def GramFindsCardSaid : Prop := Claim7.holds Tryd.pinned (.plain (OpenSpec.ofChange gramFindsSpec)) gramFindsCard

/-- THE TIED CARD OF 'wickerlaw10.UnitsTell'. -/
def unitsTellCard : Claim7 := { stood := { row := unitsTellRow, standIns := [], harness := (true, "dbcb39fb42b103b2db4ac0b36b29ec61e8607bd03254c021b0261db2afc69120"), looks := false }, kinds := [], alts := [], laidByText := true, laidKinds := [.data, .data, .data], laidTests := true, laidLooks := .later }
def UnitsTellCardSaid : Prop := Claim7.holds Tryd.pinned (.plain (OpenSpec.ofChange unitsTellSpec)) unitsTellCard

/-- THE TIED CARD OF 'wickerlaw10.UnitsLead'. -/
def unitsLeadCard : Claim7 := { stood := { row := unitsLeadRow, standIns := [], harness := (true, "dbcb39fb42b103b2db4ac0b36b29ec61e8607bd03254c021b0261db2afc69120"), looks := false }, kinds := [], alts := [], laidByText := true, laidKinds := [.data, .data, .data], laidTests := true, laidLooks := .later }
def UnitsLeadCardSaid : Prop := Claim7.holds Tryd.pinned (.plain (OpenSpec.ofChange unitsLeadSpec)) unitsLeadCard

/-- THE TIED CARD OF 'wickerlaw11.CornerRow'. -/
def cornerRowCard : Claim7 := { stood := { row := cornerRowRow, standIns := [], harness := (true, "dbcb39fb42b103b2db4ac0b36b29ec61e8607bd03254c021b0261db2afc69120"), looks := false }, kinds := [], alts := [], laidByText := true, laidKinds := [.data, .data, .data], laidTests := true, laidLooks := .later }
def CornerRowCardSaid : Prop := Claim7.holds Tryd.pinned (.plain (OpenSpec.ofChange cornerRowSpec)) cornerRowCard

/-- THE SECOND FORM's CARD OF 'wickerlaw04.ShapeTells'. -/
def shapeTellsUptoCard : Claim7 := { stood := { row := shapeTellsUptoRow, standIns := [], harness := (true, "dbcb39fb42b103b2db4ac0b36b29ec61e8607bd03254c021b0261db2afc69120"), looks := false }, kinds := [], alts := [], laidByText := true, laidKinds := [.data, .data, .data], laidTests := true, laidLooks := .later }
def ShapeTellsUptoCardSaid : Prop := Claim7.holds Tryd.pinned (.plain (OpenSpec.upto shapeTellsSpec)) shapeTellsUptoCard

/-- THE SECOND FORM's CARD OF 'wickerlaw04.ShapeHang'. -/
def shapeHangUptoCard : Claim7 := { stood := { row := shapeHangUptoRow, standIns := [], harness := (true, "dbcb39fb42b103b2db4ac0b36b29ec61e8607bd03254c021b0261db2afc69120"), looks := false }, kinds := [], alts := [], laidByText := true, laidKinds := [.data, .data, .data], laidTests := true, laidLooks := .later }
def ShapeHangUptoCardSaid : Prop := Claim7.holds Tryd.pinned (.plain (OpenSpec.upto shapeHangSpec)) shapeHangUptoCard

/-- THE SECOND FORM's CARD OF 'wickerlaw02.GramFinds'. -/
def gramFindsUptoCard : Claim7 := { stood := { row := gramFindsUptoRow, standIns := [], harness := (true, "dbcb39fb42b103b2db4ac0b36b29ec61e8607bd03254c021b0261db2afc69120"), looks := false }, kinds := [], alts := [], laidByText := true, laidKinds := [.data, .data, .data], laidTests := true, laidLooks := .later }
def GramFindsUptoCardSaid : Prop := Claim7.holds Tryd.pinned (.plain (OpenSpec.upto gramFindsSpec)) gramFindsUptoCard

/-- THE SECOND FORM's CARD OF 'wickerlaw10.UnitsTell'. -/
def unitsTellUptoCard : Claim7 := { stood := { row := unitsTellUptoRow, standIns := [], harness := (true, "dbcb39fb42b103b2db4ac0b36b29ec61e8607bd03254c021b0261db2afc69120"), looks := false }, kinds := [], alts := [], laidByText := true, laidKinds := [.data, .data, .data], laidTests := true, laidLooks := .later }
def UnitsTellUptoCardSaid : Prop := Claim7.holds Tryd.pinned (.plain (OpenSpec.upto unitsTellSpec)) unitsTellUptoCard

/-- THE SECOND FORM's CARD OF 'wickerlaw10.UnitsLead'. -/
def unitsLeadUptoCard : Claim7 := { stood := { row := unitsLeadUptoRow, standIns := [], harness := (true, "dbcb39fb42b103b2db4ac0b36b29ec61e8607bd03254c021b0261db2afc69120"), looks := false }, kinds := [], alts := [], laidByText := true, laidKinds := [.data, .data, .data], laidTests := true, laidLooks := .later }
def UnitsLeadUptoCardSaid : Prop := Claim7.holds Tryd.pinned (.plain (OpenSpec.upto unitsLeadSpec)) unitsLeadUptoCard

/-- THE SECOND FORM's CARD OF 'wickerlaw11.CornerRow'. -/
def cornerRowUptoCard : Claim7 := { stood := { row := cornerRowUptoRow, standIns := [], harness := (true, "dbcb39fb42b103b2db4ac0b36b29ec61e8607bd03254c021b0261db2afc69120"), looks := false }, kinds := [], alts := [], laidByText := true, laidKinds := [.data, .data, .data], laidTests := true, laidLooks := .later }
def CornerRowUptoCardSaid : Prop := Claim7.holds Tryd.pinned (.plain (OpenSpec.upto cornerRowSpec)) cornerRowUptoCard
end Rows
end Go.Proofs.YtgdcnmpcfoomiaaDoor
