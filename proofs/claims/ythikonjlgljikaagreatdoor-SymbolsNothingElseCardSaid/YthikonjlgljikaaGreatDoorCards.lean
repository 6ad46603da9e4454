/-
  DERIVED. GIVEN WITH THE SEED: THE CARDS: each row of YthikonjlgljikaaGreatDoorRows.lean that lists a variable, with what it lists TIED to the program's text (the seventh form; the later family's looks); each row that meets fmt, with fmt's text TOLD by the authors' own Lean function (tested against real Go, not proved from fmt's source: count such statements apart). THE CARD IS WHAT COUNTS. Prove the row's statement (the work); the ties are given (YthikonjlgljikaaGreatDoorTie.lean); close each card by the builder's one call (the guide's Derived/Test/ToyasCard.lean, 'card_holds'). Laid BY PROGRAM, IN A SANDBOX (cutbox-door.mjs). By AI agents, Wed Nov 11 2026. No macro, syntax, notation, axiom, sorry.
-/
import Derived.Test.YthikonjlgljikaaGreatDoorRows
import GoSem.ClaimSeven
namespace Go.Proofs.YthikonjlgljikaaGreatDoor
namespace Rows

/-- THE TIED CARD OF 'halfplanelaw46.CorrespondenceImages'. -/
def correspondenceImagesCard : Claim7 := { stood := { row := correspondenceImagesRow, standIns := [], harness := (true, "98238b829accb7b3fcea68a83e07a049c62723985bd1a49432f5b9952b880268"), looks := false }, kinds := [], alts := [], laidByText := true, laidKinds := [.data], laidTests := true, laidLooks := .later }
def CorrespondenceImagesCardSaid : Prop := Claim7.holds Tryz.pinned (.plain (OpenSpec.ofChange correspondenceImagesSpec)) correspondenceImagesCard

/-- THE TIED CARD OF 'halfplanelaw41.SymbolsReduces'. -/
def symbolsReducesCard : Claim7 := { stood := { row := symbolsReducesRow, standIns := [], harness := (true, "98238b829accb7b3fcea68a83e07a049c62723985bd1a49432f5b9952b880268"), looks := false }, kinds := [], alts := [], laidByText := true, laidKinds := [.data], laidTests := true, laidLooks := .later }
def SymbolsReducesCardSaid : Prop := Claim7.holds Tryz.pinned (.plain (OpenSpec.ofChange symbolsReducesSpec)) symbolsReducesCard

/-- THE TIED CARD OF 'halfplanelaw41.SymbolsBases'. -/
def symbolsBasesCard : Claim7 := { stood := { row := symbolsBasesRow, standIns := [], harness := (true, "98238b829accb7b3fcea68a83e07a049c62723985bd1a49432f5b9952b880268"), looks := false }, kinds := [], alts := [], laidByText := true, laidKinds := [.data], laidTests := true, laidLooks := .later }
def SymbolsBasesCardSaid : Prop := Claim7.holds Tryz.pinned (.plain (OpenSpec.ofChange symbolsBasesSpec)) symbolsBasesCard

/-- THE TIED CARD OF 'halfplanelaw41.SymbolsVectors'. -/
def symbolsVectorsCard : Claim7 := { stood := { row := symbolsVectorsRow, standIns := [], harness := (true, "98238b829accb7b3fcea68a83e07a049c62723985bd1a49432f5b9952b880268"), looks := false }, kinds := [], alts := [], laidByText := true, laidKinds := [.data], laidTests := true, laidLooks := .later }
def SymbolsVectorsCardSaid : Prop := Claim7.holds Tryz.pinned (.plain (OpenSpec.ofChange symbolsVectorsSpec)) symbolsVectorsCard

/-- THE TIED CARD OF 'halfplanelaw41.SymbolsRelations'. -/
def symbolsRelationsCard : Claim7 := { stood := { row := symbolsRelationsRow, standIns := [], harness := (true, "98238b829accb7b3fcea68a83e07a049c62723985bd1a49432f5b9952b880268"), looks := false }, kinds := [], alts := [], laidByText := true, laidKinds := [.data], laidTests := true, laidLooks := .later }
def SymbolsRelationsCardSaid : Prop := Claim7.holds Tryz.pinned (.plain (OpenSpec.ofChange symbolsRelationsSpec)) symbolsRelationsCard

/-- THE TIED CARD OF 'halfplanelaw41.SymbolsLinear'. -/
def symbolsLinearCard : Claim7 := { stood := { row := symbolsLinearRow, standIns := [], harness := (true, "98238b829accb7b3fcea68a83e07a049c62723985bd1a49432f5b9952b880268"), looks := false }, kinds := [], alts := [], laidByText := true, laidKinds := [.data], laidTests := true, laidLooks := .later }
def SymbolsLinearCardSaid : Prop := Claim7.holds Tryz.pinned (.plain (OpenSpec.ofChange symbolsLinearSpec)) symbolsLinearCard

/-- THE TIED CARD OF 'halfplanelaw41.SymbolsNothingElse'. -/
def symbolsNothingElseCard : Claim7 := { stood := { row := symbolsNothingElseRow, standIns := [], harness := (true, "98238b829accb7b3fcea68a83e07a049c62723985bd1a49432f5b9952b880268"), looks := false }, kinds := [], alts := [], laidByText := true, laidKinds := [.data], laidTests := true, laidLooks := .later }
def SymbolsNothingElseCardSaid : Prop := Claim7.holds Tryz.pinned (.plain (OpenSpec.ofChange symbolsNothingElseSpec)) symbolsNothingElseCard

/-- THE TIED CARD OF 'halfplanelaw45.HeckeOperators'. -/
def heckeOperatorsCard : Claim7 := { stood := { row := heckeOperatorsRow, standIns := [], harness := (true, "98238b829accb7b3fcea68a83e07a049c62723985bd1a49432f5b9952b880268"), looks := false }, kinds := [], alts := [], laidByText := true, laidKinds := [.data], laidTests := true, laidLooks := .later }
def HeckeOperatorsCardSaid : Prop := Claim7.holds Tryz.pinned (.plain (OpenSpec.ofChange heckeOperatorsSpec)) heckeOperatorsCard

/-- THE SECOND FORM's CARD OF 'halfplanelaw46.CorrespondenceImages'. -/
def correspondenceImagesUptoCard : Claim7 := { stood := { row := correspondenceImagesUptoRow, standIns := [], harness := (true, "98238b829accb7b3fcea68a83e07a049c62723985bd1a49432f5b9952b880268"), looks := false }, kinds := [], alts := [], laidByText := true, laidKinds := [.data], laidTests := true, laidLooks := .later }
def CorrespondenceImagesUptoCardSaid : Prop := Claim7.holds Tryz.pinned (.plain (OpenSpec.upto correspondenceImagesSpec)) correspondenceImagesUptoCard

/-- THE SECOND FORM's CARD OF 'halfplanelaw41.SymbolsReduces'. -/
def symbolsReducesUptoCard : Claim7 := { stood := { row := symbolsReducesUptoRow, standIns := [], harness := (true, "98238b829accb7b3fcea68a83e07a049c62723985bd1a49432f5b9952b880268"), looks := false }, kinds := [], alts := [], laidByText := true, laidKinds := [.data], laidTests := true, laidLooks := .later }
def SymbolsReducesUptoCardSaid : Prop := Claim7.holds Tryz.pinned (.plain (OpenSpec.upto symbolsReducesSpec)) symbolsReducesUptoCard

/-- THE SECOND FORM's CARD OF 'halfplanelaw41.SymbolsBases'. -/
def symbolsBasesUptoCard : Claim7 := { stood := { row := symbolsBasesUptoRow, standIns := [], harness := (true, "98238b829accb7b3fcea68a83e07a049c62723985bd1a49432f5b9952b880268"), looks := false }, kinds := [], alts := [], laidByText := true, laidKinds := [.data], laidTests := true, laidLooks := .later }
def SymbolsBasesUptoCardSaid : Prop := Claim7.holds Tryz.pinned (.plain (OpenSpec.upto symbolsBasesSpec)) symbolsBasesUptoCard

/-- THE SECOND FORM's CARD OF 'halfplanelaw41.SymbolsVectors'. -/
def symbolsVectorsUptoCard : Claim7 := { stood := { row := symbolsVectorsUptoRow, standIns := [], harness := (true, "98238b829accb7b3fcea68a83e07a049c62723985bd1a49432f5b9952b880268"), looks := false }, kinds := [], alts := [], laidByText := true, laidKinds := [.data], laidTests := true, laidLooks := .later }
def SymbolsVectorsUptoCardSaid : Prop := Claim7.holds Tryz.pinned (.plain (OpenSpec.upto symbolsVectorsSpec)) symbolsVectorsUptoCard

/-- THE SECOND FORM's CARD OF 'halfplanelaw41.SymbolsRelations'. -/
def symbolsRelationsUptoCard : Claim7 := { stood := { row := symbolsRelationsUptoRow, standIns := [], harness := (true, "98238b829accb7b3fcea68a83e07a049c62723985bd1a49432f5b9952b880268"), looks := false }, kinds := [], alts := [], laidByText := true, laidKinds := [.data], laidTests := true, laidLooks := .later }
def SymbolsRelationsUptoCardSaid : Prop := Claim7.holds Tryz.pinned (.plain (OpenSpec.upto symbolsRelationsSpec)) symbolsRelationsUptoCard

/-- THE SECOND FORM's CARD OF 'halfplanelaw41.SymbolsLinear'. -/
def symbolsLinearUptoCard : Claim7 := { stood := { row := symbolsLinearUptoRow, standIns := [], harness := (true, "98238b829accb7b3fcea68a83e07a049c62723985bd1a49432f5b9952b880268"), looks := false }, kinds := [], alts := [], laidByText := true, laidKinds := [.data], laidTests := true, laidLooks := .later }
def SymbolsLinearUptoCardSaid : Prop := Claim7.holds Tryz.pinned (.plain (OpenSpec.upto symbolsLinearSpec)) symbolsLinearUptoCard

/-- THE SECOND FORM's CARD OF 'halfplanelaw41.SymbolsNothingElse'. -/
def symbolsNothingElseUptoCard : Claim7 := { stood := { row := symbolsNothingElseUptoRow, standIns := [], harness := (true, "98238b829accb7b3fcea68a83e07a049c62723985bd1a49432f5b9952b880268"), looks := false }, kinds := [], alts := [], laidByText := true, laidKinds := [.data], laidTests := true, laidLooks := .later }
def SymbolsNothingElseUptoCardSaid : Prop := Claim7.holds Tryz.pinned (.plain (OpenSpec.upto symbolsNothingElseSpec)) symbolsNothingElseUptoCard

/-- THE SECOND FORM's CARD OF 'halfplanelaw45.HeckeOperators'. -/
def heckeOperatorsUptoCard : Claim7 := { stood := { row := heckeOperatorsUptoRow, standIns := [], harness := (true, "98238b829accb7b3fcea68a83e07a049c62723985bd1a49432f5b9952b880268"), looks := false }, kinds := [], alts := [], laidByText := true, laidKinds := [.data], laidTests := true, laidLooks := .later }
def HeckeOperatorsUptoCardSaid : Prop := Claim7.holds Tryz.pinned (.plain (OpenSpec.upto heckeOperatorsSpec)) heckeOperatorsUptoCard
end Rows
end Go.Proofs.YthikonjlgljikaaGreatDoor
