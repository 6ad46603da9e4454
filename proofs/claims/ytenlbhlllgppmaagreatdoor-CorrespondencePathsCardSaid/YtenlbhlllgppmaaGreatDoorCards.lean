/-
  DERIVED. GIVEN WITH THE SEED: THE CARDS: each row of YtenlbhlllgppmaaGreatDoorRows.lean that lists a variable, with what it lists TIED to the program's text (the seventh form; the later family's looks); each row that meets fmt, with fmt's text TOLD by the authors' own Lean function (tested against real Go, not proved from fmt's source: count such statements apart). THE CARD IS WHAT COUNTS. Prove the row's statement (the work); the ties are given (YtenlbhlllgppmaaGreatDoorTie.lean); close each card by the builder's one call (the guide's Derived/Test/ToyasCard.lean, 'card_holds'). Laid BY PROGRAM, IN A SANDBOX (cutbox-door.mjs). By AI agents, Wed Nov 11 2026. No macro, syntax, notation, axiom, sorry.
-/
import Derived.Test.YtenlbhlllgppmaaGreatDoorRows
import GoSem.ClaimSeven
namespace Go.Proofs.YtenlbhlllgppmaaGreatDoor
namespace Rows

/-- THE TIED CARD OF 'halfplanelaw45.HeckeFirst'. -/
def heckeFirstCard : Claim7 := { stood := { row := heckeFirstRow, standIns := [], harness := (true, "91bd78f5361fd486b55f70d4164b1445fc5102aaa8f5d114ef65268dc9348842"), looks := false }, kinds := [], alts := [], laidByText := true, laidKinds := [.data], laidTests := true, laidLooks := .later }
def HeckeFirstCardSaid : Prop := Claim7.holds Tryz.pinned (.plain (OpenSpec.ofChange heckeFirstSpec)) heckeFirstCard

/-- THE TIED CARD OF 'halfplanelaw47.DegeneracyPaths'. -/
def degeneracyPathsCard : Claim7 := { stood := { row := degeneracyPathsRow, standIns := [], harness := (true, "91bd78f5361fd486b55f70d4164b1445fc5102aaa8f5d114ef65268dc9348842"), looks := false }, kinds := [], alts := [], laidByText := true, laidKinds := [.data], laidTests := true, laidLooks := .later }
def DegeneracyPathsCardSaid : Prop := Claim7.holds Tryz.pinned (.plain (OpenSpec.ofChange degeneracyPathsSpec)) degeneracyPathsCard

/-- THE TIED CARD OF 'halfplanelaw47.DegeneracyComposes'. -/
def degeneracyComposesCard : Claim7 := { stood := { row := degeneracyComposesRow, standIns := [], harness := (true, "91bd78f5361fd486b55f70d4164b1445fc5102aaa8f5d114ef65268dc9348842"), looks := false }, kinds := [], alts := [], laidByText := true, laidKinds := [.data], laidTests := true, laidLooks := .later }
def DegeneracyComposesCardSaid : Prop := Claim7.holds Tryz.pinned (.plain (OpenSpec.ofChange degeneracyComposesSpec)) degeneracyComposesCard

/-- THE TIED CARD OF 'halfplanelaw48.AtkinlehnerAny'. -/
def atkinlehnerAnyCard : Claim7 := { stood := { row := atkinlehnerAnyRow, standIns := [], harness := (true, "91bd78f5361fd486b55f70d4164b1445fc5102aaa8f5d114ef65268dc9348842"), looks := false }, kinds := [], alts := [], laidByText := true, laidKinds := [.data], laidTests := true, laidLooks := .later }
def AtkinlehnerAnyCardSaid : Prop := Claim7.holds Tryz.pinned (.plain (OpenSpec.ofChange atkinlehnerAnySpec)) atkinlehnerAnyCard

/-- THE TIED CARD OF 'halfplanelaw46.CorrespondencePaths'. -/
def correspondencePathsCard : Claim7 := { stood := { row := correspondencePathsRow, standIns := [], harness := (true, "91bd78f5361fd486b55f70d4164b1445fc5102aaa8f5d114ef65268dc9348842"), looks := false }, kinds := [], alts := [], laidByText := true, laidKinds := [.data], laidTests := true, laidLooks := .later }
def CorrespondencePathsCardSaid : Prop := Claim7.holds Tryz.pinned (.plain (OpenSpec.ofChange correspondencePathsSpec)) correspondencePathsCard

/-- THE TIED CARD OF 'halfplanelaw48.AtkinlehnerProducts'. -/
def atkinlehnerProductsCard : Claim7 := { stood := { row := atkinlehnerProductsRow, standIns := [], harness := (true, "91bd78f5361fd486b55f70d4164b1445fc5102aaa8f5d114ef65268dc9348842"), looks := false }, kinds := [], alts := [], laidByText := true, laidKinds := [.data], laidTests := true, laidLooks := .later }
def AtkinlehnerProductsCardSaid : Prop := Claim7.holds Tryz.pinned (.plain (OpenSpec.ofChange atkinlehnerProductsSpec)) atkinlehnerProductsCard

/-- THE SECOND FORM's CARD OF 'halfplanelaw45.HeckeFirst'. -/
def heckeFirstUptoCard : Claim7 := { stood := { row := heckeFirstUptoRow, standIns := [], harness := (true, "91bd78f5361fd486b55f70d4164b1445fc5102aaa8f5d114ef65268dc9348842"), looks := false }, kinds := [], alts := [], laidByText := true, laidKinds := [.data], laidTests := true, laidLooks := .later }
def HeckeFirstUptoCardSaid : Prop := Claim7.holds Tryz.pinned (.plain (OpenSpec.upto heckeFirstSpec)) heckeFirstUptoCard

/-- THE SECOND FORM's CARD OF 'halfplanelaw47.DegeneracyPaths'. -/
def degeneracyPathsUptoCard : Claim7 := { stood := { row := degeneracyPathsUptoRow, standIns := [], harness := (true, "91bd78f5361fd486b55f70d4164b1445fc5102aaa8f5d114ef65268dc9348842"), looks := false }, kinds := [], alts := [], laidByText := true, laidKinds := [.data], laidTests := true, laidLooks := .later }
def DegeneracyPathsUptoCardSaid : Prop := Claim7.holds Tryz.pinned (.plain (OpenSpec.upto degeneracyPathsSpec)) degeneracyPathsUptoCard

/-- THE SECOND FORM's CARD OF 'halfplanelaw47.DegeneracyComposes'. -/
def degeneracyComposesUptoCard : Claim7 := { stood := { row := degeneracyComposesUptoRow, standIns := [], harness := (true, "91bd78f5361fd486b55f70d4164b1445fc5102aaa8f5d114ef65268dc9348842"), looks := false }, kinds := [], alts := [], laidByText := true, laidKinds := [.data], laidTests := true, laidLooks := .later }
def DegeneracyComposesUptoCardSaid : Prop := Claim7.holds Tryz.pinned (.plain (OpenSpec.upto degeneracyComposesSpec)) degeneracyComposesUptoCard

/-- THE SECOND FORM's CARD OF 'halfplanelaw48.AtkinlehnerAny'. -/
def atkinlehnerAnyUptoCard : Claim7 := { stood := { row := atkinlehnerAnyUptoRow, standIns := [], harness := (true, "91bd78f5361fd486b55f70d4164b1445fc5102aaa8f5d114ef65268dc9348842"), looks := false }, kinds := [], alts := [], laidByText := true, laidKinds := [.data], laidTests := true, laidLooks := .later }
def AtkinlehnerAnyUptoCardSaid : Prop := Claim7.holds Tryz.pinned (.plain (OpenSpec.upto atkinlehnerAnySpec)) atkinlehnerAnyUptoCard

/-- THE SECOND FORM's CARD OF 'halfplanelaw46.CorrespondencePaths'. -/
def correspondencePathsUptoCard : Claim7 := { stood := { row := correspondencePathsUptoRow, standIns := [], harness := (true, "91bd78f5361fd486b55f70d4164b1445fc5102aaa8f5d114ef65268dc9348842"), looks := false }, kinds := [], alts := [], laidByText := true, laidKinds := [.data], laidTests := true, laidLooks := .later }
def CorrespondencePathsUptoCardSaid : Prop := Claim7.holds Tryz.pinned (.plain (OpenSpec.upto correspondencePathsSpec)) correspondencePathsUptoCard

/-- THE SECOND FORM's CARD OF 'halfplanelaw48.AtkinlehnerProducts'. -/
def atkinlehnerProductsUptoCard : Claim7 := { stood := { row := atkinlehnerProductsUptoRow, standIns := [], harness := (true, "91bd78f5361fd486b55f70d4164b1445fc5102aaa8f5d114ef65268dc9348842"), looks := false }, kinds := [], alts := [], laidByText := true, laidKinds := [.data], laidTests := true, laidLooks := .later }
def AtkinlehnerProductsUptoCardSaid : Prop := Claim7.holds Tryz.pinned (.plain (OpenSpec.upto atkinlehnerProductsSpec)) atkinlehnerProductsUptoCard
end Rows
end Go.Proofs.YtenlbhlllgppmaaGreatDoor
