/-
  DERIVED. GIVEN WITH THE SEED: THE CARDS: each row of YthikonjlgljikaaDoorRows.lean that lists a variable, with what it lists TIED to the program's text (the seventh form; the later family's looks); each row that meets fmt, with fmt's text TOLD by the authors' own Lean function (tested against real Go, not proved from fmt's source: count such statements apart). THE CARD IS WHAT COUNTS. Prove the row's statement (the work); the ties are given (YthikonjlgljikaaDoorTie.lean); close each card by the builder's one call (the guide's Derived/Test/ToyasCard.lean, 'card_holds'). Laid BY PROGRAM, IN A SANDBOX (cutbox-door.mjs). By AI agents, Wed Nov 11 2026. No macro, syntax, notation, axiom, sorry.
-/
import Derived.Test.YthikonjlgljikaaDoorRows
import GoSem.ClaimSeven
namespace Go.Proofs.YthikonjlgljikaaDoor
namespace Rows

/-- THE TIED CARD OF 'halfplanelaw46.CorrespondenceCosets'. -/
def correspondenceCosetsCard : Claim7 := { stood := { row := correspondenceCosetsRow, standIns := [], harness := (true, "78e45383e7190f51e3df7343d70d3a034e5d7204a3198f73c3ee45de3dd3678b"), looks := false }, kinds := [], alts := [], laidByText := true, laidKinds := [.data], laidTests := true, laidLooks := .later }
def CorrespondenceCosetsCardSaid : Prop := Claim7.holds Tryd.pinned (.plain (OpenSpec.ofChange correspondenceCosetsSpec)) correspondenceCosetsCard

/-- THE TIED CARD OF 'halfplanelaw46.CorrespondenceCounts'. -/
def correspondenceCountsCard : Claim7 := { stood := { row := correspondenceCountsRow, standIns := [], harness := (true, "78e45383e7190f51e3df7343d70d3a034e5d7204a3198f73c3ee45de3dd3678b"), looks := false }, kinds := [], alts := [], laidByText := true, laidKinds := [.data], laidTests := true, laidLooks := .later }
def CorrespondenceCountsCardSaid : Prop := Claim7.holds Tryd.pinned (.plain (OpenSpec.ofChange correspondenceCountsSpec)) correspondenceCountsCard

/-- THE TIED CARD OF 'halfplanelaw41.SymbolsFree'. -/
def symbolsFreeCard : Claim7 := { stood := { row := symbolsFreeRow, standIns := [], harness := (true, "78e45383e7190f51e3df7343d70d3a034e5d7204a3198f73c3ee45de3dd3678b"), looks := false }, kinds := [], alts := [], laidByText := true, laidKinds := [.data], laidTests := true, laidLooks := .later }
def SymbolsFreeCardSaid : Prop := Claim7.holds Tryd.pinned (.plain (OpenSpec.ofChange symbolsFreeSpec)) symbolsFreeCard

/-- THE TIED CARD OF 'halfplanelaw41.SymbolsNil'. -/
def symbolsNilCard : Claim7 := { stood := { row := symbolsNilRow, standIns := [], harness := (true, "78e45383e7190f51e3df7343d70d3a034e5d7204a3198f73c3ee45de3dd3678b"), looks := false }, kinds := [], alts := [], laidByText := true, laidKinds := [.data], laidTests := true, laidLooks := .later }
def SymbolsNilCardSaid : Prop := Claim7.holds Tryd.pinned (.plain (OpenSpec.ofChange symbolsNilSpec)) symbolsNilCard

/-- THE SECOND FORM's CARD OF 'halfplanelaw46.CorrespondenceCosets'. -/
def correspondenceCosetsUptoCard : Claim7 := { stood := { row := correspondenceCosetsUptoRow, standIns := [], harness := (true, "78e45383e7190f51e3df7343d70d3a034e5d7204a3198f73c3ee45de3dd3678b"), looks := false }, kinds := [], alts := [], laidByText := true, laidKinds := [.data], laidTests := true, laidLooks := .later }
def CorrespondenceCosetsUptoCardSaid : Prop := Claim7.holds Tryd.pinned (.plain (OpenSpec.upto correspondenceCosetsSpec)) correspondenceCosetsUptoCard

/-- THE SECOND FORM's CARD OF 'halfplanelaw46.CorrespondenceCounts'. -/
def correspondenceCountsUptoCard : Claim7 := { stood := { row := correspondenceCountsUptoRow, standIns := [], harness := (true, "78e45383e7190f51e3df7343d70d3a034e5d7204a3198f73c3ee45de3dd3678b"), looks := false }, kinds := [], alts := [], laidByText := true, laidKinds := [.data], laidTests := true, laidLooks := .later }
def CorrespondenceCountsUptoCardSaid : Prop := Claim7.holds Tryd.pinned (.plain (OpenSpec.upto correspondenceCountsSpec)) correspondenceCountsUptoCard

/-- THE SECOND FORM's CARD OF 'halfplanelaw41.SymbolsFree'. -/
def symbolsFreeUptoCard : Claim7 := { stood := { row := symbolsFreeUptoRow, standIns := [], harness := (true, "78e45383e7190f51e3df7343d70d3a034e5d7204a3198f73c3ee45de3dd3678b"), looks := false }, kinds := [], alts := [], laidByText := true, laidKinds := [.data], laidTests := true, laidLooks := .later }
def SymbolsFreeUptoCardSaid : Prop := Claim7.holds Tryd.pinned (.plain (OpenSpec.upto symbolsFreeSpec)) symbolsFreeUptoCard

/-- THE SECOND FORM's CARD OF 'halfplanelaw41.SymbolsNil'. -/
def symbolsNilUptoCard : Claim7 := { stood := { row := symbolsNilUptoRow, standIns := [], harness := (true, "78e45383e7190f51e3df7343d70d3a034e5d7204a3198f73c3ee45de3dd3678b"), looks := false }, kinds := [], alts := [], laidByText := true, laidKinds := [.data], laidTests := true, laidLooks := .later }
def SymbolsNilUptoCardSaid : Prop := Claim7.holds Tryd.pinned (.plain (OpenSpec.upto symbolsNilSpec)) symbolsNilUptoCard
end Rows
end Go.Proofs.YthikonjlgljikaaDoor
