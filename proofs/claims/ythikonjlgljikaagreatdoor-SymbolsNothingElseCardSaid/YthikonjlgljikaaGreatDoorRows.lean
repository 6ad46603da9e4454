/-
  NARROWER THAN 'FOR EVERY INPUT', by the rows' own cells (each row's printed sentence says how): CorrespondenceImages: laid · SymbolsReduces: laid · SymbolsBases: laid · SymbolsVectors: laid · SymbolsRelations: laid · SymbolsLinear: laid · SymbolsNothingElse: laid · HeckeOperators: laid.
  DERIVED. THE GIVEN ROWS OF THIS SEAT. 8 by the template 'for every input the law returns true; each argument reads behind the call as it read before'; 0 by the template 'total and deterministic' (their statements: YthikonjlgljikaaGreatDoorTotals.lean).
  GIVEN WITH THE SEED: the statements are not yours to turn. If you find one false, say at which input.
  Laid BY PROGRAM, IN A SANDBOX (cutbox-rows.mjs): the forced cells as the released guide's own fill.sh prints them over the translation 3e344e320a7e71df… (all of the seat's roots in one cut). By AI agents, Wed Nov 11 2026. No macro, syntax, notation, axiom, sorry.
-/
import Derived.Test.YthikonjlgljikaaGreatDoorChecked
import GoSem.Claim
import GoSem.ClaimJoined
import GoSem.ClaimMapViews
import Derived.JoinedTies
import Derived.KernelRfl
namespace Go.Proofs.YthikonjlgljikaaGreatDoor
/- THE CELL 'sum', in the pinned program and in every row, IS THE sha256 OF THE DUMP (.gsa) THAT YthikonjlgljikaaGreatDoorProg.lean LOADS. Nothing in Lean hashes anything: it is a label: what it is worth is what the hold of that sum in a sandbox is worth. -/
noncomputable def Tryz.pinned : Pinned := { name := "ythikonjlgljikaagreatdoor", sum := "3e344e320a7e71df18eeff656fb2ff85cb52b1ba3c1ce0e5cd6542622e71d27c", checked := Tryz.checked }
namespace Rows
def none {H : Type} : Left H := { results := [], args := [] }

/- WHAT THE LISTED PACKAGE-LEVEL VARIABLES READ AS WHEN THE CALL BEGINS. Each datum BY PROGRAM (the guide's laid-datum.mjs) off the statement by which the dump's own 'gosem.cut.vars' lays the variable. In a bare row this is a premise. The card (YthikonjlgljikaaGreatDoorCards.lean) ties it to the program's text. -/
def laid_math_bits_deBruijn64tab {H : Type} : DataW H := .agg [.lit (.int .u8 0), .lit (.int .u8 1), .lit (.int .u8 56), .lit (.int .u8 2), .lit (.int .u8 57), .lit (.int .u8 49), .lit (.int .u8 28), .lit (.int .u8 3), .lit (.int .u8 61), .lit (.int .u8 58), .lit (.int .u8 42), .lit (.int .u8 50), .lit (.int .u8 38), .lit (.int .u8 29), .lit (.int .u8 17), .lit (.int .u8 4), .lit (.int .u8 62), .lit (.int .u8 47), .lit (.int .u8 59), .lit (.int .u8 36), .lit (.int .u8 45), .lit (.int .u8 43), .lit (.int .u8 51), .lit (.int .u8 22), .lit (.int .u8 53), .lit (.int .u8 39), .lit (.int .u8 33), .lit (.int .u8 30), .lit (.int .u8 24), .lit (.int .u8 18), .lit (.int .u8 12), .lit (.int .u8 5), .lit (.int .u8 63), .lit (.int .u8 55), .lit (.int .u8 48), .lit (.int .u8 27), .lit (.int .u8 60), .lit (.int .u8 41), .lit (.int .u8 37), .lit (.int .u8 16), .lit (.int .u8 46), .lit (.int .u8 35), .lit (.int .u8 44), .lit (.int .u8 21), .lit (.int .u8 52), .lit (.int .u8 32), .lit (.int .u8 23), .lit (.int .u8 11), .lit (.int .u8 54), .lit (.int .u8 26), .lit (.int .u8 40), .lit (.int .u8 15), .lit (.int .u8 34), .lit (.int .u8 20), .lit (.int .u8 31), .lit (.int .u8 10), .lit (.int .u8 25), .lit (.int .u8 14), .lit (.int .u8 19), .lit (.int .u8 9), .lit (.int .u8 13), .lit (.int .u8 8), .lit (.int .u8 7), .lit (.int .u8 6)]

/-- 'halfplanelaw46.CorrespondenceImages': WHATEVER THE INPUT: true; the input reads as it did. -/
def correspondenceImagesSpec : ChangeSpec := { name := "correspondenceImages", fn := fun _ => fun
  | [d1, d2, d3] => { results := [.lit (.bool true)], args := [d1, d2, d3] }
  | _ => none }
def correspondenceImagesRow : OpenClaim := { program := "ythikonjlgljikaagreatdoor", sum := "3e344e320a7e71df18eeff656fb2ff85cb52b1ba3c1ce0e5cd6542622e71d27c", func := "halfplane/halfplanelaw46.CorrespondenceImages", spec := "correspondenceImages", unfollowed := true, recurses := true, named := ["math/bits.deBruijn64tab", "math/bits.overflowError"], apart := false, laid := [("math/bits.deBruijn64tab", laid_math_bits_deBruijn64tab)] }
def CorrespondenceImagesSaid : Prop := correspondenceImagesRow.holds Tryz.pinned (OpenSpec.ofChange correspondenceImagesSpec)

/-- ITS FALSE NEIGHBOUR: 'it returns false'. Refute it at one input. -/
def correspondenceImagesWrong : ChangeSpec := { name := "correspondenceImages", fn := fun _ => fun
  | [d1, d2, d3] => { results := [.lit (.bool false)], args := [d1, d2, d3] }
  | _ => none }
def CorrespondenceImagesWrongFalsely : Prop := correspondenceImagesRow.holds Tryz.pinned (OpenSpec.ofChange correspondenceImagesWrong)

/-- 'halfplanelaw41.SymbolsReduces': WHATEVER THE INPUT: true; the input reads as it did. -/
def symbolsReducesSpec : ChangeSpec := { name := "symbolsReduces", fn := fun _ => fun
  | [d1, d2] => { results := [.lit (.bool true)], args := [d1, d2] }
  | _ => none }
def symbolsReducesRow : OpenClaim := { program := "ythikonjlgljikaagreatdoor", sum := "3e344e320a7e71df18eeff656fb2ff85cb52b1ba3c1ce0e5cd6542622e71d27c", func := "halfplane/halfplanelaw41.SymbolsReduces", spec := "symbolsReduces", unfollowed := true, recurses := true, named := ["math/bits.deBruijn64tab", "math/bits.overflowError"], apart := false, laid := [("math/bits.deBruijn64tab", laid_math_bits_deBruijn64tab)] }
def SymbolsReducesSaid : Prop := symbolsReducesRow.holds Tryz.pinned (OpenSpec.ofChange symbolsReducesSpec)

/-- ITS FALSE NEIGHBOUR: 'it returns false'. Refute it at one input. -/
def symbolsReducesWrong : ChangeSpec := { name := "symbolsReduces", fn := fun _ => fun
  | [d1, d2] => { results := [.lit (.bool false)], args := [d1, d2] }
  | _ => none }
def SymbolsReducesWrongFalsely : Prop := symbolsReducesRow.holds Tryz.pinned (OpenSpec.ofChange symbolsReducesWrong)

/-- 'halfplanelaw41.SymbolsBases': WHATEVER THE INPUT: true; the input reads as it did. -/
def symbolsBasesSpec : ChangeSpec := { name := "symbolsBases", fn := fun _ => fun
  | [d] => { results := [.lit (.bool true)], args := [d] }
  | _ => none }
def symbolsBasesRow : OpenClaim := { program := "ythikonjlgljikaagreatdoor", sum := "3e344e320a7e71df18eeff656fb2ff85cb52b1ba3c1ce0e5cd6542622e71d27c", func := "halfplane/halfplanelaw41.SymbolsBases", spec := "symbolsBases", unfollowed := true, recurses := true, named := ["math/bits.deBruijn64tab", "math/bits.overflowError"], apart := false, laid := [("math/bits.deBruijn64tab", laid_math_bits_deBruijn64tab)] }
def SymbolsBasesSaid : Prop := symbolsBasesRow.holds Tryz.pinned (OpenSpec.ofChange symbolsBasesSpec)

/-- ITS FALSE NEIGHBOUR: 'it returns false'. Refute it at one input. -/
def symbolsBasesWrong : ChangeSpec := { name := "symbolsBases", fn := fun _ => fun
  | [d] => { results := [.lit (.bool false)], args := [d] }
  | _ => none }
def SymbolsBasesWrongFalsely : Prop := symbolsBasesRow.holds Tryz.pinned (OpenSpec.ofChange symbolsBasesWrong)

/-- 'halfplanelaw41.SymbolsVectors': WHATEVER THE INPUT: true; the input reads as it did. -/
def symbolsVectorsSpec : ChangeSpec := { name := "symbolsVectors", fn := fun _ => fun
  | [d1, d2, d3] => { results := [.lit (.bool true)], args := [d1, d2, d3] }
  | _ => none }
def symbolsVectorsRow : OpenClaim := { program := "ythikonjlgljikaagreatdoor", sum := "3e344e320a7e71df18eeff656fb2ff85cb52b1ba3c1ce0e5cd6542622e71d27c", func := "halfplane/halfplanelaw41.SymbolsVectors", spec := "symbolsVectors", unfollowed := true, recurses := true, named := ["math/bits.deBruijn64tab", "math/bits.overflowError"], apart := false, laid := [("math/bits.deBruijn64tab", laid_math_bits_deBruijn64tab)] }
def SymbolsVectorsSaid : Prop := symbolsVectorsRow.holds Tryz.pinned (OpenSpec.ofChange symbolsVectorsSpec)

/-- ITS FALSE NEIGHBOUR: 'it returns false'. Refute it at one input. -/
def symbolsVectorsWrong : ChangeSpec := { name := "symbolsVectors", fn := fun _ => fun
  | [d1, d2, d3] => { results := [.lit (.bool false)], args := [d1, d2, d3] }
  | _ => none }
def SymbolsVectorsWrongFalsely : Prop := symbolsVectorsRow.holds Tryz.pinned (OpenSpec.ofChange symbolsVectorsWrong)

/-- 'halfplanelaw41.SymbolsRelations': WHATEVER THE INPUT: true; the input reads as it did. -/
def symbolsRelationsSpec : ChangeSpec := { name := "symbolsRelations", fn := fun _ => fun
  | [d] => { results := [.lit (.bool true)], args := [d] }
  | _ => none }
def symbolsRelationsRow : OpenClaim := { program := "ythikonjlgljikaagreatdoor", sum := "3e344e320a7e71df18eeff656fb2ff85cb52b1ba3c1ce0e5cd6542622e71d27c", func := "halfplane/halfplanelaw41.SymbolsRelations", spec := "symbolsRelations", unfollowed := true, recurses := true, named := ["math/bits.deBruijn64tab", "math/bits.overflowError"], apart := false, laid := [("math/bits.deBruijn64tab", laid_math_bits_deBruijn64tab)] }
def SymbolsRelationsSaid : Prop := symbolsRelationsRow.holds Tryz.pinned (OpenSpec.ofChange symbolsRelationsSpec)

/-- ITS FALSE NEIGHBOUR: 'it returns false'. Refute it at one input. -/
def symbolsRelationsWrong : ChangeSpec := { name := "symbolsRelations", fn := fun _ => fun
  | [d] => { results := [.lit (.bool false)], args := [d] }
  | _ => none }
def SymbolsRelationsWrongFalsely : Prop := symbolsRelationsRow.holds Tryz.pinned (OpenSpec.ofChange symbolsRelationsWrong)

/-- 'halfplanelaw41.SymbolsLinear': WHATEVER THE INPUT: true; the input reads as it did. -/
def symbolsLinearSpec : ChangeSpec := { name := "symbolsLinear", fn := fun _ => fun
  | [d1, d2, d3] => { results := [.lit (.bool true)], args := [d1, d2, d3] }
  | _ => none }
def symbolsLinearRow : OpenClaim := { program := "ythikonjlgljikaagreatdoor", sum := "3e344e320a7e71df18eeff656fb2ff85cb52b1ba3c1ce0e5cd6542622e71d27c", func := "halfplane/halfplanelaw41.SymbolsLinear", spec := "symbolsLinear", unfollowed := true, recurses := true, named := ["math/bits.deBruijn64tab", "math/bits.overflowError"], apart := false, laid := [("math/bits.deBruijn64tab", laid_math_bits_deBruijn64tab)] }
def SymbolsLinearSaid : Prop := symbolsLinearRow.holds Tryz.pinned (OpenSpec.ofChange symbolsLinearSpec)

/-- ITS FALSE NEIGHBOUR: 'it returns false'. Refute it at one input. -/
def symbolsLinearWrong : ChangeSpec := { name := "symbolsLinear", fn := fun _ => fun
  | [d1, d2, d3] => { results := [.lit (.bool false)], args := [d1, d2, d3] }
  | _ => none }
def SymbolsLinearWrongFalsely : Prop := symbolsLinearRow.holds Tryz.pinned (OpenSpec.ofChange symbolsLinearWrong)

/-- 'halfplanelaw41.SymbolsNothingElse': WHATEVER THE INPUT: true; the input reads as it did. -/
def symbolsNothingElseSpec : ChangeSpec := { name := "symbolsNothingElse", fn := fun _ => fun
  | [d] => { results := [.lit (.bool true)], args := [d] }
  | _ => none }
def symbolsNothingElseRow : OpenClaim := { program := "ythikonjlgljikaagreatdoor", sum := "3e344e320a7e71df18eeff656fb2ff85cb52b1ba3c1ce0e5cd6542622e71d27c", func := "halfplane/halfplanelaw41.SymbolsNothingElse", spec := "symbolsNothingElse", unfollowed := true, recurses := true, named := ["math/bits.deBruijn64tab", "math/bits.overflowError"], apart := false, laid := [("math/bits.deBruijn64tab", laid_math_bits_deBruijn64tab)] }
def SymbolsNothingElseSaid : Prop := symbolsNothingElseRow.holds Tryz.pinned (OpenSpec.ofChange symbolsNothingElseSpec)

/-- ITS FALSE NEIGHBOUR: 'it returns false'. Refute it at one input. -/
def symbolsNothingElseWrong : ChangeSpec := { name := "symbolsNothingElse", fn := fun _ => fun
  | [d] => { results := [.lit (.bool false)], args := [d] }
  | _ => none }
def SymbolsNothingElseWrongFalsely : Prop := symbolsNothingElseRow.holds Tryz.pinned (OpenSpec.ofChange symbolsNothingElseWrong)

/-- 'halfplanelaw45.HeckeOperators': WHATEVER THE INPUT: true; the input reads as it did. -/
def heckeOperatorsSpec : ChangeSpec := { name := "heckeOperators", fn := fun _ => fun
  | [d1, d2] => { results := [.lit (.bool true)], args := [d1, d2] }
  | _ => none }
def heckeOperatorsRow : OpenClaim := { program := "ythikonjlgljikaagreatdoor", sum := "3e344e320a7e71df18eeff656fb2ff85cb52b1ba3c1ce0e5cd6542622e71d27c", func := "halfplane/halfplanelaw45.HeckeOperators", spec := "heckeOperators", unfollowed := true, recurses := true, named := ["math/bits.deBruijn64tab", "math/bits.overflowError"], apart := false, laid := [("math/bits.deBruijn64tab", laid_math_bits_deBruijn64tab)] }
def HeckeOperatorsSaid : Prop := heckeOperatorsRow.holds Tryz.pinned (OpenSpec.ofChange heckeOperatorsSpec)

/-- ITS FALSE NEIGHBOUR: 'it returns false'. Refute it at one input. -/
def heckeOperatorsWrong : ChangeSpec := { name := "heckeOperators", fn := fun _ => fun
  | [d1, d2] => { results := [.lit (.bool false)], args := [d1, d2] }
  | _ => none }
def HeckeOperatorsWrongFalsely : Prop := heckeOperatorsRow.holds Tryz.pinned (OpenSpec.ofChange heckeOperatorsWrong)

/- THE SECOND FORM. 'bulk': how many values and letters a reading holds, each counted each time it is reached (what is shared counts as often as it is met; a slice's spare places count too). A statement '..UptoSaid' is the law's where the arguments, and the package variables that the reading takes, are together of bulk at most 1048576: NARROWER than '..Said'. Prove '..Said' where nothing that the law and all that it calls make is longer than what came in: it says more and counts as full. Else prove '..UptoSaid'. A law counts once. -/
mutual
def uptoBulk {H : Type} : DataW H → Nat
  | .lit (.string bytes) => bytes.length + 1
  | .lit _ => 1
  | .nil => 1
  | .ptr d => uptoBulk d + 1
  | .slice elems spare => uptoBulkAll elems + uptoBulkAll spare + 1
  | .agg parts => uptoBulkAll parts + 1
  | .iface _ d => uptoBulk d + 1
  | .map entries => uptoBulkEntries entries + 1
  | .held _ => 1
def uptoBulkAll {H : Type} : List (DataW H) → Nat
  | [] => 0
  | d :: r => uptoBulk d + uptoBulkAll r
def uptoBulkEntries {H : Type} : List (Lit × DataW H) → Nat
  | [] => 0
  | x :: r => uptoBulkEntry x + uptoBulkEntries r
def uptoBulkEntry {H : Type} : Lit × DataW H → Nat
  | (.string bytes, d) => bytes.length + uptoBulk d + 1
  | (_, d) => uptoBulk d + 1
 end
def uptoSmall : (H : Type) → List (DataW H) → Bool := fun _ ds => decide (uptoBulkAll ds ≤ 1048576)
def OpenSpec.upto (s : _root_.Go.ChangeSpec) : _root_.Go.OpenSpec := { _root_.Go.OpenSpec.ofChange s with cond := some uptoSmall }

/-- 'halfplanelaw46.CorrespondenceImages', WHERE WHAT IT READS IS OF BULK AT MOST 1048576: true; the input reads as it did. -/
def correspondenceImagesUptoRow : OpenClaim := { program := "ythikonjlgljikaagreatdoor", sum := "3e344e320a7e71df18eeff656fb2ff85cb52b1ba3c1ce0e5cd6542622e71d27c", func := "halfplane/halfplanelaw46.CorrespondenceImages", spec := "correspondenceImages", unfollowed := true, recurses := true, named := ["math/bits.deBruijn64tab", "math/bits.overflowError"], apart := false, laid := [("math/bits.deBruijn64tab", laid_math_bits_deBruijn64tab)], narrowed := true }
def CorrespondenceImagesUptoSaid : Prop := correspondenceImagesUptoRow.holds Tryz.pinned (OpenSpec.upto correspondenceImagesSpec)

/-- 'halfplanelaw41.SymbolsReduces', WHERE WHAT IT READS IS OF BULK AT MOST 1048576: true; the input reads as it did. -/
def symbolsReducesUptoRow : OpenClaim := { program := "ythikonjlgljikaagreatdoor", sum := "3e344e320a7e71df18eeff656fb2ff85cb52b1ba3c1ce0e5cd6542622e71d27c", func := "halfplane/halfplanelaw41.SymbolsReduces", spec := "symbolsReduces", unfollowed := true, recurses := true, named := ["math/bits.deBruijn64tab", "math/bits.overflowError"], apart := false, laid := [("math/bits.deBruijn64tab", laid_math_bits_deBruijn64tab)], narrowed := true }
def SymbolsReducesUptoSaid : Prop := symbolsReducesUptoRow.holds Tryz.pinned (OpenSpec.upto symbolsReducesSpec)

/-- 'halfplanelaw41.SymbolsBases', WHERE WHAT IT READS IS OF BULK AT MOST 1048576: true; the input reads as it did. -/
def symbolsBasesUptoRow : OpenClaim := { program := "ythikonjlgljikaagreatdoor", sum := "3e344e320a7e71df18eeff656fb2ff85cb52b1ba3c1ce0e5cd6542622e71d27c", func := "halfplane/halfplanelaw41.SymbolsBases", spec := "symbolsBases", unfollowed := true, recurses := true, named := ["math/bits.deBruijn64tab", "math/bits.overflowError"], apart := false, laid := [("math/bits.deBruijn64tab", laid_math_bits_deBruijn64tab)], narrowed := true }
def SymbolsBasesUptoSaid : Prop := symbolsBasesUptoRow.holds Tryz.pinned (OpenSpec.upto symbolsBasesSpec)

/-- 'halfplanelaw41.SymbolsVectors', WHERE WHAT IT READS IS OF BULK AT MOST 1048576: true; the input reads as it did. -/
def symbolsVectorsUptoRow : OpenClaim := { program := "ythikonjlgljikaagreatdoor", sum := "3e344e320a7e71df18eeff656fb2ff85cb52b1ba3c1ce0e5cd6542622e71d27c", func := "halfplane/halfplanelaw41.SymbolsVectors", spec := "symbolsVectors", unfollowed := true, recurses := true, named := ["math/bits.deBruijn64tab", "math/bits.overflowError"], apart := false, laid := [("math/bits.deBruijn64tab", laid_math_bits_deBruijn64tab)], narrowed := true }
def SymbolsVectorsUptoSaid : Prop := symbolsVectorsUptoRow.holds Tryz.pinned (OpenSpec.upto symbolsVectorsSpec)

/-- 'halfplanelaw41.SymbolsRelations', WHERE WHAT IT READS IS OF BULK AT MOST 1048576: true; the input reads as it did. -/
def symbolsRelationsUptoRow : OpenClaim := { program := "ythikonjlgljikaagreatdoor", sum := "3e344e320a7e71df18eeff656fb2ff85cb52b1ba3c1ce0e5cd6542622e71d27c", func := "halfplane/halfplanelaw41.SymbolsRelations", spec := "symbolsRelations", unfollowed := true, recurses := true, named := ["math/bits.deBruijn64tab", "math/bits.overflowError"], apart := false, laid := [("math/bits.deBruijn64tab", laid_math_bits_deBruijn64tab)], narrowed := true }
def SymbolsRelationsUptoSaid : Prop := symbolsRelationsUptoRow.holds Tryz.pinned (OpenSpec.upto symbolsRelationsSpec)

/-- 'halfplanelaw41.SymbolsLinear', WHERE WHAT IT READS IS OF BULK AT MOST 1048576: true; the input reads as it did. -/
def symbolsLinearUptoRow : OpenClaim := { program := "ythikonjlgljikaagreatdoor", sum := "3e344e320a7e71df18eeff656fb2ff85cb52b1ba3c1ce0e5cd6542622e71d27c", func := "halfplane/halfplanelaw41.SymbolsLinear", spec := "symbolsLinear", unfollowed := true, recurses := true, named := ["math/bits.deBruijn64tab", "math/bits.overflowError"], apart := false, laid := [("math/bits.deBruijn64tab", laid_math_bits_deBruijn64tab)], narrowed := true }
def SymbolsLinearUptoSaid : Prop := symbolsLinearUptoRow.holds Tryz.pinned (OpenSpec.upto symbolsLinearSpec)

/-- 'halfplanelaw41.SymbolsNothingElse', WHERE WHAT IT READS IS OF BULK AT MOST 1048576: true; the input reads as it did. -/
def symbolsNothingElseUptoRow : OpenClaim := { program := "ythikonjlgljikaagreatdoor", sum := "3e344e320a7e71df18eeff656fb2ff85cb52b1ba3c1ce0e5cd6542622e71d27c", func := "halfplane/halfplanelaw41.SymbolsNothingElse", spec := "symbolsNothingElse", unfollowed := true, recurses := true, named := ["math/bits.deBruijn64tab", "math/bits.overflowError"], apart := false, laid := [("math/bits.deBruijn64tab", laid_math_bits_deBruijn64tab)], narrowed := true }
def SymbolsNothingElseUptoSaid : Prop := symbolsNothingElseUptoRow.holds Tryz.pinned (OpenSpec.upto symbolsNothingElseSpec)

/-- 'halfplanelaw45.HeckeOperators', WHERE WHAT IT READS IS OF BULK AT MOST 1048576: true; the input reads as it did. -/
def heckeOperatorsUptoRow : OpenClaim := { program := "ythikonjlgljikaagreatdoor", sum := "3e344e320a7e71df18eeff656fb2ff85cb52b1ba3c1ce0e5cd6542622e71d27c", func := "halfplane/halfplanelaw45.HeckeOperators", spec := "heckeOperators", unfollowed := true, recurses := true, named := ["math/bits.deBruijn64tab", "math/bits.overflowError"], apart := false, laid := [("math/bits.deBruijn64tab", laid_math_bits_deBruijn64tab)], narrowed := true }
def HeckeOperatorsUptoSaid : Prop := heckeOperatorsUptoRow.holds Tryz.pinned (OpenSpec.upto heckeOperatorsSpec)

end Rows
end Go.Proofs.YthikonjlgljikaaGreatDoor
