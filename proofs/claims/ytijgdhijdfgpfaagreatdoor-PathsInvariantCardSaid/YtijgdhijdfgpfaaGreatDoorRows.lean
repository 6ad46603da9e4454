/-
  NARROWER THAN 'FOR EVERY INPUT', by the rows' own cells (each row's printed sentence says how): PathsTranslates: laid · PathsTriangles: laid · PathsTwice: laid · PathsInvariant: laid · PathsAlong: laid.
  DERIVED. THE GIVEN ROWS OF THIS SEAT. 5 by the template 'for every input the law returns true; each argument reads behind the call as it read before'; 0 by the template 'total and deterministic' (their statements: YtijgdhijdfgpfaaGreatDoorTotals.lean).
  GIVEN WITH THE SEED: the statements are not yours to turn. If you find one false, say at which input.
  Laid BY PROGRAM, IN A SANDBOX (cutbox-rows.mjs): the forced cells as the released guide's own fill.sh prints them over the translation baa70fd8c03d87da… (all of the seat's roots in one cut). By AI agents, Wed Nov 11 2026. No macro, syntax, notation, axiom, sorry.
-/
import Derived.Test.YtijgdhijdfgpfaaGreatDoorChecked
import GoSem.Claim
import GoSem.ClaimJoined
import GoSem.ClaimMapViews
import Derived.JoinedTies
import Derived.KernelRfl
namespace Go.Proofs.YtijgdhijdfgpfaaGreatDoor
/- THE CELL 'sum', in the pinned program and in every row, IS THE sha256 OF THE DUMP (.gsa) THAT YtijgdhijdfgpfaaGreatDoorProg.lean LOADS. Nothing in Lean hashes anything: it is a label: what it is worth is what the hold of that sum in a sandbox is worth. -/
noncomputable def Tryz.pinned : Pinned := { name := "ytijgdhijdfgpfaagreatdoor", sum := "baa70fd8c03d87dae7ced72341e71b25a63e19ae065a9d2a57564ee301b52c7d", checked := Tryz.checked }
namespace Rows
def none {H : Type} : Left H := { results := [], args := [] }

/- WHAT THE LISTED PACKAGE-LEVEL VARIABLES READ AS WHEN THE CALL BEGINS. Each datum BY PROGRAM (the guide's laid-datum.mjs) off the statement by which the dump's own 'gosem.cut.vars' lays the variable. In a bare row this is a premise. The card (YtijgdhijdfgpfaaGreatDoorCards.lean) ties it to the program's text. -/
def laid_math_bits_deBruijn64tab {H : Type} : DataW H := .agg [.lit (.int .u8 0), .lit (.int .u8 1), .lit (.int .u8 56), .lit (.int .u8 2), .lit (.int .u8 57), .lit (.int .u8 49), .lit (.int .u8 28), .lit (.int .u8 3), .lit (.int .u8 61), .lit (.int .u8 58), .lit (.int .u8 42), .lit (.int .u8 50), .lit (.int .u8 38), .lit (.int .u8 29), .lit (.int .u8 17), .lit (.int .u8 4), .lit (.int .u8 62), .lit (.int .u8 47), .lit (.int .u8 59), .lit (.int .u8 36), .lit (.int .u8 45), .lit (.int .u8 43), .lit (.int .u8 51), .lit (.int .u8 22), .lit (.int .u8 53), .lit (.int .u8 39), .lit (.int .u8 33), .lit (.int .u8 30), .lit (.int .u8 24), .lit (.int .u8 18), .lit (.int .u8 12), .lit (.int .u8 5), .lit (.int .u8 63), .lit (.int .u8 55), .lit (.int .u8 48), .lit (.int .u8 27), .lit (.int .u8 60), .lit (.int .u8 41), .lit (.int .u8 37), .lit (.int .u8 16), .lit (.int .u8 46), .lit (.int .u8 35), .lit (.int .u8 44), .lit (.int .u8 21), .lit (.int .u8 52), .lit (.int .u8 32), .lit (.int .u8 23), .lit (.int .u8 11), .lit (.int .u8 54), .lit (.int .u8 26), .lit (.int .u8 40), .lit (.int .u8 15), .lit (.int .u8 34), .lit (.int .u8 20), .lit (.int .u8 31), .lit (.int .u8 10), .lit (.int .u8 25), .lit (.int .u8 14), .lit (.int .u8 19), .lit (.int .u8 9), .lit (.int .u8 13), .lit (.int .u8 8), .lit (.int .u8 7), .lit (.int .u8 6)]

/-- 'halfplanelaw42.PathsTranslates': WHATEVER THE INPUT: true; the input reads as it did. -/
def pathsTranslatesSpec : ChangeSpec := { name := "pathsTranslates", fn := fun _ => fun
  | [d1, d2] => { results := [.lit (.bool true)], args := [d1, d2] }
  | _ => none }
def pathsTranslatesRow : OpenClaim := { program := "ytijgdhijdfgpfaagreatdoor", sum := "baa70fd8c03d87dae7ced72341e71b25a63e19ae065a9d2a57564ee301b52c7d", func := "halfplane/halfplanelaw42.PathsTranslates", spec := "pathsTranslates", unfollowed := true, recurses := true, named := ["math/bits.deBruijn64tab", "math/bits.overflowError"], apart := false, laid := [("math/bits.deBruijn64tab", laid_math_bits_deBruijn64tab)] }
def PathsTranslatesSaid : Prop := pathsTranslatesRow.holds Tryz.pinned (OpenSpec.ofChange pathsTranslatesSpec)

/-- ITS FALSE NEIGHBOUR: 'it returns false'. Refute it at one input. -/
def pathsTranslatesWrong : ChangeSpec := { name := "pathsTranslates", fn := fun _ => fun
  | [d1, d2] => { results := [.lit (.bool false)], args := [d1, d2] }
  | _ => none }
def PathsTranslatesWrongFalsely : Prop := pathsTranslatesRow.holds Tryz.pinned (OpenSpec.ofChange pathsTranslatesWrong)

/-- 'halfplanelaw42.PathsTriangles': WHATEVER THE INPUT: true; the input reads as it did. -/
def pathsTrianglesSpec : ChangeSpec := { name := "pathsTriangles", fn := fun _ => fun
  | [d1, d2] => { results := [.lit (.bool true)], args := [d1, d2] }
  | _ => none }
def pathsTrianglesRow : OpenClaim := { program := "ytijgdhijdfgpfaagreatdoor", sum := "baa70fd8c03d87dae7ced72341e71b25a63e19ae065a9d2a57564ee301b52c7d", func := "halfplane/halfplanelaw42.PathsTriangles", spec := "pathsTriangles", unfollowed := true, recurses := true, named := ["math/bits.deBruijn64tab", "math/bits.overflowError"], apart := false, laid := [("math/bits.deBruijn64tab", laid_math_bits_deBruijn64tab)] }
def PathsTrianglesSaid : Prop := pathsTrianglesRow.holds Tryz.pinned (OpenSpec.ofChange pathsTrianglesSpec)

/-- ITS FALSE NEIGHBOUR: 'it returns false'. Refute it at one input. -/
def pathsTrianglesWrong : ChangeSpec := { name := "pathsTriangles", fn := fun _ => fun
  | [d1, d2] => { results := [.lit (.bool false)], args := [d1, d2] }
  | _ => none }
def PathsTrianglesWrongFalsely : Prop := pathsTrianglesRow.holds Tryz.pinned (OpenSpec.ofChange pathsTrianglesWrong)

/-- 'halfplanelaw42.PathsTwice': WHATEVER THE INPUT: true; the input reads as it did. -/
def pathsTwiceSpec : ChangeSpec := { name := "pathsTwice", fn := fun _ => fun
  | [d1, d2] => { results := [.lit (.bool true)], args := [d1, d2] }
  | _ => none }
def pathsTwiceRow : OpenClaim := { program := "ytijgdhijdfgpfaagreatdoor", sum := "baa70fd8c03d87dae7ced72341e71b25a63e19ae065a9d2a57564ee301b52c7d", func := "halfplane/halfplanelaw42.PathsTwice", spec := "pathsTwice", unfollowed := true, recurses := true, named := ["math/bits.deBruijn64tab", "math/bits.overflowError"], apart := false, laid := [("math/bits.deBruijn64tab", laid_math_bits_deBruijn64tab)] }
def PathsTwiceSaid : Prop := pathsTwiceRow.holds Tryz.pinned (OpenSpec.ofChange pathsTwiceSpec)

/-- ITS FALSE NEIGHBOUR: 'it returns false'. Refute it at one input. -/
def pathsTwiceWrong : ChangeSpec := { name := "pathsTwice", fn := fun _ => fun
  | [d1, d2] => { results := [.lit (.bool false)], args := [d1, d2] }
  | _ => none }
def PathsTwiceWrongFalsely : Prop := pathsTwiceRow.holds Tryz.pinned (OpenSpec.ofChange pathsTwiceWrong)

/-- 'halfplanelaw42.PathsInvariant': WHATEVER THE INPUT: true; the input reads as it did. -/
def pathsInvariantSpec : ChangeSpec := { name := "pathsInvariant", fn := fun _ => fun
  | [d1, d2] => { results := [.lit (.bool true)], args := [d1, d2] }
  | _ => none }
def pathsInvariantRow : OpenClaim := { program := "ytijgdhijdfgpfaagreatdoor", sum := "baa70fd8c03d87dae7ced72341e71b25a63e19ae065a9d2a57564ee301b52c7d", func := "halfplane/halfplanelaw42.PathsInvariant", spec := "pathsInvariant", unfollowed := true, recurses := true, named := ["math/bits.deBruijn64tab", "math/bits.overflowError"], apart := false, laid := [("math/bits.deBruijn64tab", laid_math_bits_deBruijn64tab)] }
def PathsInvariantSaid : Prop := pathsInvariantRow.holds Tryz.pinned (OpenSpec.ofChange pathsInvariantSpec)

/-- ITS FALSE NEIGHBOUR: 'it returns false'. Refute it at one input. -/
def pathsInvariantWrong : ChangeSpec := { name := "pathsInvariant", fn := fun _ => fun
  | [d1, d2] => { results := [.lit (.bool false)], args := [d1, d2] }
  | _ => none }
def PathsInvariantWrongFalsely : Prop := pathsInvariantRow.holds Tryz.pinned (OpenSpec.ofChange pathsInvariantWrong)

/-- 'halfplanelaw42.PathsAlong': WHATEVER THE INPUT: true; the input reads as it did. -/
def pathsAlongSpec : ChangeSpec := { name := "pathsAlong", fn := fun _ => fun
  | [d1, d2, d3] => { results := [.lit (.bool true)], args := [d1, d2, d3] }
  | _ => none }
def pathsAlongRow : OpenClaim := { program := "ytijgdhijdfgpfaagreatdoor", sum := "baa70fd8c03d87dae7ced72341e71b25a63e19ae065a9d2a57564ee301b52c7d", func := "halfplane/halfplanelaw42.PathsAlong", spec := "pathsAlong", unfollowed := true, recurses := true, named := ["math/bits.deBruijn64tab", "math/bits.overflowError"], apart := false, laid := [("math/bits.deBruijn64tab", laid_math_bits_deBruijn64tab)] }
def PathsAlongSaid : Prop := pathsAlongRow.holds Tryz.pinned (OpenSpec.ofChange pathsAlongSpec)

/-- ITS FALSE NEIGHBOUR: 'it returns false'. Refute it at one input. -/
def pathsAlongWrong : ChangeSpec := { name := "pathsAlong", fn := fun _ => fun
  | [d1, d2, d3] => { results := [.lit (.bool false)], args := [d1, d2, d3] }
  | _ => none }
def PathsAlongWrongFalsely : Prop := pathsAlongRow.holds Tryz.pinned (OpenSpec.ofChange pathsAlongWrong)

/- THE SECOND FORM. 'bulk': how many values and letters a reading holds, each counted each time it is reached (what is shared counts as often as it is met; a slice's spare places count too). A statement '..UptoSaid' is the law's where the arguments, and the package variables that the reading takes, are together of bulk at most 1048576: NARROWER than '..Said'. Prove '..Said' where nothing that the law and all that it calls make is longer than what came in: it says more and counts as full. Else prove '..UptoSaid'. A law counts once. -/
mutual
def uptoBulk {H : Type} : DataW H → Nat
  | .lit (.string bytes) => bytes.length + 1
  | .lit _ => 1
  | .nil => 1
  | .ptr d => uptoBulk d + 1
  | .slice elems spare => uptoBulkAll elems + uptoBulkAll spare + 1
  | .agg parts => uptoBulkAll parts + 1
  | .iface _ d => uptoBulk d + 1
  | .map entries => uptoBulkEntries entries + 1
  | .held _ => 1
def uptoBulkAll {H : Type} : List (DataW H) → Nat
  | [] => 0
  | d :: r => uptoBulk d + uptoBulkAll r
def uptoBulkEntries {H : Type} : List (Lit × DataW H) → Nat
  | [] => 0
  | x :: r => uptoBulkEntry x + uptoBulkEntries r
def uptoBulkEntry {H : Type} : Lit × DataW H → Nat
  | (.string bytes, d) => bytes.length + uptoBulk d + 1
  | (_, d) => uptoBulk d + 1
 end
def uptoSmall : (H : Type) → List (DataW H) → Bool := fun _ ds => decide (uptoBulkAll ds ≤ 1048576)
def OpenSpec.upto (s : _root_.Go.ChangeSpec) : _root_.Go.OpenSpec := { _root_.Go.OpenSpec.ofChange s with cond := some uptoSmall }

/-- 'halfplanelaw42.PathsTranslates', WHERE WHAT IT READS IS OF BULK AT MOST 1048576: true; the input reads as it did. -/
def pathsTranslatesUptoRow : OpenClaim := { program := "ytijgdhijdfgpfaagreatdoor", sum := "baa70fd8c03d87dae7ced72341e71b25a63e19ae065a9d2a57564ee301b52c7d", func := "halfplane/halfplanelaw42.PathsTranslates", spec := "pathsTranslates", unfollowed := true, recurses := true, named := ["math/bits.deBruijn64tab", "math/bits.overflowError"], apart := false, laid := [("math/bits.deBruijn64tab", laid_math_bits_deBruijn64tab)], narrowed := true }
def PathsTranslatesUptoSaid : Prop := pathsTranslatesUptoRow.holds Tryz.pinned (OpenSpec.upto pathsTranslatesSpec)

/-- 'halfplanelaw42.PathsTriangles', WHERE WHAT IT READS IS OF BULK AT MOST 1048576: true; the input reads as it did. -/
def pathsTrianglesUptoRow : OpenClaim := { program := "ytijgdhijdfgpfaagreatdoor", sum := "baa70fd8c03d87dae7ced72341e71b25a63e19ae065a9d2a57564ee301b52c7d", func := "halfplane/halfplanelaw42.PathsTriangles", spec := "pathsTriangles", unfollowed := true, recurses := true, named := ["math/bits.deBruijn64tab", "math/bits.overflowError"], apart := false, laid := [("math/bits.deBruijn64tab", laid_math_bits_deBruijn64tab)], narrowed := true }
def PathsTrianglesUptoSaid : Prop := pathsTrianglesUptoRow.holds Tryz.pinned (OpenSpec.upto pathsTrianglesSpec)

/-- 'halfplanelaw42.PathsTwice', WHERE WHAT IT READS IS OF BULK AT MOST 1048576: true; the input reads as it did. -/
def pathsTwiceUptoRow : OpenClaim := { program := "ytijgdhijdfgpfaagreatdoor", sum := "baa70fd8c03d87dae7ced72341e71b25a63e19ae065a9d2a57564ee301b52c7d", func := "halfplane/halfplanelaw42.PathsTwice", spec := "pathsTwice", unfollowed := true, recurses := true, named := ["math/bits.deBruijn64tab", "math/bits.overflowError"], apart := false, laid := [("math/bits.deBruijn64tab", laid_math_bits_deBruijn64tab)], narrowed := true }
def PathsTwiceUptoSaid : Prop := pathsTwiceUptoRow.holds Tryz.pinned (OpenSpec.upto pathsTwiceSpec)

/-- 'halfplanelaw42.PathsInvariant', WHERE WHAT IT READS IS OF BULK AT MOST 1048576: true; the input reads as it did. -/
def pathsInvariantUptoRow : OpenClaim := { program := "ytijgdhijdfgpfaagreatdoor", sum := "baa70fd8c03d87dae7ced72341e71b25a63e19ae065a9d2a57564ee301b52c7d", func := "halfplane/halfplanelaw42.PathsInvariant", spec := "pathsInvariant", unfollowed := true, recurses := true, named := ["math/bits.deBruijn64tab", "math/bits.overflowError"], apart := false, laid := [("math/bits.deBruijn64tab", laid_math_bits_deBruijn64tab)], narrowed := true }
def PathsInvariantUptoSaid : Prop := pathsInvariantUptoRow.holds Tryz.pinned (OpenSpec.upto pathsInvariantSpec)

/-- 'halfplanelaw42.PathsAlong', WHERE WHAT IT READS IS OF BULK AT MOST 1048576: true; the input reads as it did. -/
def pathsAlongUptoRow : OpenClaim := { program := "ytijgdhijdfgpfaagreatdoor", sum := "baa70fd8c03d87dae7ced72341e71b25a63e19ae065a9d2a57564ee301b52c7d", func := "halfplane/halfplanelaw42.PathsAlong", spec := "pathsAlong", unfollowed := true, recurses := true, named := ["math/bits.deBruijn64tab", "math/bits.overflowError"], apart := false, laid := [("math/bits.deBruijn64tab", laid_math_bits_deBruijn64tab)], narrowed := true }
def PathsAlongUptoSaid : Prop := pathsAlongUptoRow.holds Tryz.pinned (OpenSpec.upto pathsAlongSpec)

end Rows
end Go.Proofs.YtijgdhijdfgpfaaGreatDoor
