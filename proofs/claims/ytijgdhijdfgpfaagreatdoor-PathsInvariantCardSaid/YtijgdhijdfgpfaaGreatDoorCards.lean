/-
  DERIVED. GIVEN WITH THE SEED: THE CARDS: each row of YtijgdhijdfgpfaaGreatDoorRows.lean that lists a variable, with what it lists TIED to the program's text (the seventh form; the later family's looks); each row that meets fmt, with fmt's text TOLD by the authors' own Lean function (tested against real Go, not proved from fmt's source: count such statements apart). THE CARD IS WHAT COUNTS. Prove the row's statement (the work); the ties are given (YtijgdhijdfgpfaaGreatDoorTie.lean); close each card by the builder's one call (the guide's Derived/Test/ToyasCard.lean, 'card_holds'). Laid BY PROGRAM, IN A SANDBOX (cutbox-door.mjs). By AI agents, Wed Nov 11 2026. No macro, syntax, notation, axiom, sorry.
-/
import Derived.Test.YtijgdhijdfgpfaaGreatDoorRows
import GoSem.ClaimSeven
namespace Go.Proofs.YtijgdhijdfgpfaaGreatDoor
namespace Rows

/-- THE TIED CARD OF 'halfplanelaw42.PathsTranslates'. -/
def pathsTranslatesCard : Claim7 := { stood := { row := pathsTranslatesRow, standIns := [], harness := (true, "c1c636e8d3a35e316862cd13114ae04864c1cc3d4b65bda1251d53ed0095b6ac"), looks := false }, kinds := [], alts := [], laidByText := true, laidKinds := [.data], laidTests := true, laidLooks := .later }
def PathsTranslatesCardSaid : Prop := Claim7.holds Tryz.pinned (.plain (OpenSpec.ofChange pathsTranslatesSpec)) pathsTranslatesCard

/-- THE TIED CARD OF 'halfplanelaw42.PathsTriangles'. -/
def pathsTrianglesCard : Claim7 := { stood := { row := pathsTrianglesRow, standIns := [], harness := (true, "c1c636e8d3a35e316862cd13114ae04864c1cc3d4b65bda1251d53ed0095b6ac"), looks := false }, kinds := [], alts := [], laidByText := true, laidKinds := [.data], laidTests := true, laidLooks := .later }
def PathsTrianglesCardSaid : Prop := Claim7.holds Tryz.pinned (.plain (OpenSpec.ofChange pathsTrianglesSpec)) pathsTrianglesCard

/-- THE TIED CARD OF 'halfplanelaw42.PathsTwice'. -/
def pathsTwiceCard : Claim7 := { stood := { row := pathsTwiceRow, standIns := [], harness := (true, "c1c636e8d3a35e316862cd13114ae04864c1cc3d4b65bda1251d53ed0095b6ac"), looks := false }, kinds := [], alts := [], laidByText := true, laidKinds := [.data], laidTests := true, laidLooks := .later }
def PathsTwiceCardSaid : Prop := Claim7.holds Tryz.pinned (.plain (OpenSpec.ofChange pathsTwiceSpec)) pathsTwiceCard

/-- THE TIED CARD OF 'halfplanelaw42.PathsInvariant'. -/
def pathsInvariantCard : Claim7 := { stood := { row := pathsInvariantRow, standIns := [], harness := (true, "c1c636e8d3a35e316862cd13114ae04864c1cc3d4b65bda1251d53ed0095b6ac"), looks := false }, kinds := [], alts := [], laidByText := true, laidKinds := [.data], laidTests := true, laidLooks := .later }
def PathsInvariantCardSaid : Prop := Claim7.holds Tryz.pinned (.plain (OpenSpec.ofChange pathsInvariantSpec)) pathsInvariantCard

/-- THE TIED CARD OF 'halfplanelaw42.PathsAlong'. -/
def pathsAlongCard : Claim7 := { stood := { row := pathsAlongRow, standIns := [], harness := (true, "c1c636e8d3a35e316862cd13114ae04864c1cc3d4b65bda1251d53ed0095b6ac"), looks := false }, kinds := [], alts := [], laidByText := true, laidKinds := [.data], laidTests := true, laidLooks := .later }
def PathsAlongCardSaid : Prop := Claim7.holds Tryz.pinned (.plain (OpenSpec.ofChange pathsAlongSpec)) pathsAlongCard

/-- THE SECOND FORM's CARD OF 'halfplanelaw42.PathsTranslates'. -/
def pathsTranslatesUptoCard : Claim7 := { stood := { row := pathsTranslatesUptoRow, standIns := [], harness := (true, "c1c636e8d3a35e316862cd13114ae04864c1cc3d4b65bda1251d53ed0095b6ac"), looks := false }, kinds := [], alts := [], laidByText := true, laidKinds := [.data], laidTests := true, laidLooks := .later }
def PathsTranslatesUptoCardSaid : Prop := Claim7.holds Tryz.pinned (.plain (OpenSpec.upto pathsTranslatesSpec)) pathsTranslatesUptoCard

/-- THE SECOND FORM's CARD OF 'halfplanelaw42.PathsTriangles'. -/
def pathsTrianglesUptoCard : Claim7 := { stood := { row := pathsTrianglesUptoRow, standIns := [], harness := (true, "c1c636e8d3a35e316862cd13114ae04864c1cc3d4b65bda1251d53ed0095b6ac"), looks := false }, kinds := [], alts := [], laidByText := true, laidKinds := [.data], laidTests := true, laidLooks := .later }
def PathsTrianglesUptoCardSaid : Prop := Claim7.holds Tryz.pinned (.plain (OpenSpec.upto pathsTrianglesSpec)) pathsTrianglesUptoCard

/-- THE SECOND FORM's CARD OF 'halfplanelaw42.PathsTwice'. -/
def pathsTwiceUptoCard : Claim7 := { stood := { row := pathsTwiceUptoRow, standIns := [], harness := (true, "c1c636e8d3a35e316862cd13114ae04864c1cc3d4b65bda1251d53ed0095b6ac"), looks := false }, kinds := [], alts := [], laidByText := true, laidKinds := [.data], laidTests := true, laidLooks := .later }
def PathsTwiceUptoCardSaid : Prop := Claim7.holds Tryz.pinned (.plain (OpenSpec.upto pathsTwiceSpec)) pathsTwiceUptoCard

/-- THE SECOND FORM's CARD OF 'halfplanelaw42.PathsInvariant'. -/
def pathsInvariantUptoCard : Claim7 := { stood := { row := pathsInvariantUptoRow, standIns := [], harness := (true, "c1c636e8d3a35e316862cd13114ae04864c1cc3d4b65bda1251d53ed0095b6ac"), looks := false }, kinds := [], alts := [], laidByText := true, laidKinds := [.data], laidTests := true, laidLooks := .later }
def PathsInvariantUptoCardSaid : Prop := Claim7.holds Tryz.pinned (.plain (OpenSpec.upto pathsInvariantSpec)) pathsInvariantUptoCard

/-- THE SECOND FORM's CARD OF 'halfplanelaw42.PathsAlong'. -/
def pathsAlongUptoCard : Claim7 := { stood := { row := pathsAlongUptoRow, standIns := [], harness := (true, "c1c636e8d3a35e316862cd13114ae04864c1cc3d4b65bda1251d53ed0095b6ac"), looks := false }, kinds := [], alts := [], laidByText := true, laidKinds := [.data], laidTests := true, laidLooks := .later }
def PathsAlongUptoCardSaid : Prop := Claim7.holds Tryz.pinned (.plain (OpenSpec.upto pathsAlongSpec)) pathsAlongUptoCard
end Rows
end Go.Proofs.YtijgdhijdfgpfaaGreatDoor
