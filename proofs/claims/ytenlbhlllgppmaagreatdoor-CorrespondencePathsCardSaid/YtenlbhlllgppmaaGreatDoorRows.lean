/-
  NARROWER THAN 'FOR EVERY INPUT', by the rows' own cells (each row's printed sentence says how): HeckeFirst: laid · DegeneracyPaths: laid · DegeneracyComposes: laid · AtkinlehnerAny: laid · CorrespondencePaths: laid · AtkinlehnerProducts: laid.
  DERIVED. THE GIVEN ROWS OF THIS SEAT. 6 by the template 'for every input the law returns true; each argument reads behind the call as it read before'; 0 by the template 'total and deterministic' (their statements: YtenlbhlllgppmaaGreatDoorTotals.lean).
  GIVEN WITH THE SEED: the statements are not yours to turn. If you find one false, say at which input.
  Laid BY PROGRAM, IN A SANDBOX (cutbox-rows.mjs): the forced cells as the released guide's own fill.sh prints them over the translation 0ebf648634f2989d… (all of the seat's roots in one cut). By AI agents, Wed Nov 11 2026. No macro, syntax, notation, axiom, sorry.
-/
import Derived.Test.YtenlbhlllgppmaaGreatDoorChecked
import GoSem.Claim
import GoSem.ClaimJoined
import GoSem.ClaimMapViews
import Derived.JoinedTies
import Derived.KernelRfl
namespace Go.Proofs.YtenlbhlllgppmaaGreatDoor
/- THE CELL 'sum', in the pinned program and in every row, IS THE sha256 OF THE DUMP (.gsa) THAT YtenlbhlllgppmaaGreatDoorProg.lean LOADS. Nothing in Lean hashes anything: it is a label: what it is worth is what the hold of that sum in a sandbox is worth. -/
noncomputable def Tryz.pinned : Pinned := { name := "ytenlbhlllgppmaagreatdoor", sum := "0ebf648634f2989d3f9fd13d29753f9d63f7fe0ea863baeaa7f24035e241297d", checked := Tryz.checked }
namespace Rows
def none {H : Type} : Left H := { results := [], args := [] }

/- WHAT THE LISTED PACKAGE-LEVEL VARIABLES READ AS WHEN THE CALL BEGINS. Each datum BY PROGRAM (the guide's laid-datum.mjs) off the statement by which the dump's own 'gosem.cut.vars' lays the variable. In a bare row this is a premise. The card (YtenlbhlllgppmaaGreatDoorCards.lean) ties it to the program's text. -/
def laid_math_bits_deBruijn64tab {H : Type} : DataW H := .agg [.lit (.int .u8 0), .lit (.int .u8 1), .lit (.int .u8 56), .lit (.int .u8 2), .lit (.int .u8 57), .lit (.int .u8 49), .lit (.int .u8 28), .lit (.int .u8 3), .lit (.int .u8 61), .lit (.int .u8 58), .lit (.int .u8 42), .lit (.int .u8 50), .lit (.int .u8 38), .lit (.int .u8 29), .lit (.int .u8 17), .lit (.int .u8 4), .lit (.int .u8 62), .lit (.int .u8 47), .lit (.int .u8 59), .lit (.int .u8 36), .lit (.int .u8 45), .lit (.int .u8 43), .lit (.int .u8 51), .lit (.int .u8 22), .lit (.int .u8 53), .lit (.int .u8 39), .lit (.int .u8 33), .lit (.int .u8 30), .lit (.int .u8 24), .lit (.int .u8 18), .lit (.int .u8 12), .lit (.int .u8 5), .lit (.int .u8 63), .lit (.int .u8 55), .lit (.int .u8 48), .lit (.int .u8 27), .lit (.int .u8 60), .lit (.int .u8 41), .lit (.int .u8 37), .lit (.int .u8 16), .lit (.int .u8 46), .lit (.int .u8 35), .lit (.int .u8 44), .lit (.int .u8 21), .lit (.int .u8 52), .lit (.int .u8 32), .lit (.int .u8 23), .lit (.int .u8 11), .lit (.int .u8 54), .lit (.int .u8 26), .lit (.int .u8 40), .lit (.int .u8 15), .lit (.int .u8 34), .lit (.int .u8 20), .lit (.int .u8 31), .lit (.int .u8 10), .lit (.int .u8 25), .lit (.int .u8 14), .lit (.int .u8 19), .lit (.int .u8 9), .lit (.int .u8 13), .lit (.int .u8 8), .lit (.int .u8 7), .lit (.int .u8 6)]

/-- 'halfplanelaw45.HeckeFirst': WHATEVER THE INPUT: true; the input reads as it did. -/
def heckeFirstSpec : ChangeSpec := { name := "heckeFirst", fn := fun _ => fun
  | [d1, d2] => { results := [.lit (.bool true)], args := [d1, d2] }
  | _ => none }
def heckeFirstRow : OpenClaim := { program := "ytenlbhlllgppmaagreatdoor", sum := "0ebf648634f2989d3f9fd13d29753f9d63f7fe0ea863baeaa7f24035e241297d", func := "halfplane/halfplanelaw45.HeckeFirst", spec := "heckeFirst", unfollowed := true, recurses := true, named := ["math/bits.deBruijn64tab", "math/bits.overflowError"], apart := false, laid := [("math/bits.deBruijn64tab", laid_math_bits_deBruijn64tab)] }
def HeckeFirstSaid : Prop := heckeFirstRow.holds Tryz.pinned (OpenSpec.ofChange heckeFirstSpec)

/-- ITS FALSE NEIGHBOUR: 'it returns false'. Refute it at one input. -/
def heckeFirstWrong : ChangeSpec := { name := "heckeFirst", fn := fun _ => fun
  | [d1, d2] => { results := [.lit (.bool false)], args := [d1, d2] }
  | _ => none }
def HeckeFirstWrongFalsely : Prop := heckeFirstRow.holds Tryz.pinned (OpenSpec.ofChange heckeFirstWrong)

/-- 'halfplanelaw47.DegeneracyPaths': WHATEVER THE INPUT: true; the input reads as it did. -/
def degeneracyPathsSpec : ChangeSpec := { name := "degeneracyPaths", fn := fun _ => fun
  | [d1, d2] => { results := [.lit (.bool true)], args := [d1, d2] }
  | _ => none }
def degeneracyPathsRow : OpenClaim := { program := "ytenlbhlllgppmaagreatdoor", sum := "0ebf648634f2989d3f9fd13d29753f9d63f7fe0ea863baeaa7f24035e241297d", func := "halfplane/halfplanelaw47.DegeneracyPaths", spec := "degeneracyPaths", unfollowed := true, recurses := true, named := ["math/bits.deBruijn64tab", "math/bits.overflowError"], apart := false, laid := [("math/bits.deBruijn64tab", laid_math_bits_deBruijn64tab)] }
def DegeneracyPathsSaid : Prop := degeneracyPathsRow.holds Tryz.pinned (OpenSpec.ofChange degeneracyPathsSpec)

/-- ITS FALSE NEIGHBOUR: 'it returns false'. Refute it at one input. -/
def degeneracyPathsWrong : ChangeSpec := { name := "degeneracyPaths", fn := fun _ => fun
  | [d1, d2] => { results := [.lit (.bool false)], args := [d1, d2] }
  | _ => none }
def DegeneracyPathsWrongFalsely : Prop := degeneracyPathsRow.holds Tryz.pinned (OpenSpec.ofChange degeneracyPathsWrong)

/-- 'halfplanelaw47.DegeneracyComposes': WHATEVER THE INPUT: true; the input reads as it did. -/
def degeneracyComposesSpec : ChangeSpec := { name := "degeneracyComposes", fn := fun _ => fun
  | [d1, d2, d3] => { results := [.lit (.bool true)], args := [d1, d2, d3] }
  | _ => none }
def degeneracyComposesRow : OpenClaim := { program := "ytenlbhlllgppmaagreatdoor", sum := "0ebf648634f2989d3f9fd13d29753f9d63f7fe0ea863baeaa7f24035e241297d", func := "halfplane/halfplanelaw47.DegeneracyComposes", spec := "degeneracyComposes", unfollowed := true, recurses := true, named := ["math/bits.deBruijn64tab", "math/bits.overflowError"], apart := false, laid := [("math/bits.deBruijn64tab", laid_math_bits_deBruijn64tab)] }
def DegeneracyComposesSaid : Prop := degeneracyComposesRow.holds Tryz.pinned (OpenSpec.ofChange degeneracyComposesSpec)

/-- ITS FALSE NEIGHBOUR: 'it returns false'. Refute it at one input. -/
def degeneracyComposesWrong : ChangeSpec := { name := "degeneracyComposes", fn := fun _ => fun
  | [d1, d2, d3] => { results := [.lit (.bool false)], args := [d1, d2, d3] }
  | _ => none }
def DegeneracyComposesWrongFalsely : Prop := degeneracyComposesRow.holds Tryz.pinned (OpenSpec.ofChange degeneracyComposesWrong)

/-- 'halfplanelaw48.AtkinlehnerAny': WHATEVER THE INPUT: true; the input reads as it did. -/
def atkinlehnerAnySpec : ChangeSpec := { name := "atkinlehnerAny", fn := fun _ => fun
  | [d1, d2, d3] => { results := [.lit (.bool true)], args := [d1, d2, d3] }
  | _ => none }
def atkinlehnerAnyRow : OpenClaim := { program := "ytenlbhlllgppmaagreatdoor", sum := "0ebf648634f2989d3f9fd13d29753f9d63f7fe0ea863baeaa7f24035e241297d", func := "halfplane/halfplanelaw48.AtkinlehnerAny", spec := "atkinlehnerAny", unfollowed := true, recurses := true, named := ["math/bits.deBruijn64tab", "math/bits.overflowError"], apart := false, laid := [("math/bits.deBruijn64tab", laid_math_bits_deBruijn64tab)] }
def AtkinlehnerAnySaid : Prop := atkinlehnerAnyRow.holds Tryz.pinned (OpenSpec.ofChange atkinlehnerAnySpec)

/-- ITS FALSE NEIGHBOUR: 'it returns false'. Refute it at one input. -/
def atkinlehnerAnyWrong : ChangeSpec := { name := "atkinlehnerAny", fn := fun _ => fun
  | [d1, d2, d3] => { results := [.lit (.bool false)], args := [d1, d2, d3] }
  | _ => none }
def AtkinlehnerAnyWrongFalsely : Prop := atkinlehnerAnyRow.holds Tryz.pinned (OpenSpec.ofChange atkinlehnerAnyWrong)

/-- 'halfplanelaw46.CorrespondencePaths': WHATEVER THE INPUT: true; the input reads as it did. -/
def correspondencePathsSpec : ChangeSpec := { name := "correspondencePaths", fn := fun _ => fun
  | [d1, d2, d3] => { results := [.lit (.bool true)], args := [d1, d2, d3] }
  | _ => none }
def correspondencePathsRow : OpenClaim := { program := "ytenlbhlllgppmaagreatdoor", sum := "0ebf648634f2989d3f9fd13d29753f9d63f7fe0ea863baeaa7f24035e241297d", func := "halfplane/halfplanelaw46.CorrespondencePaths", spec := "correspondencePaths", unfollowed := true, recurses := true, named := ["math/bits.deBruijn64tab", "math/bits.overflowError"], apart := false, laid := [("math/bits.deBruijn64tab", laid_math_bits_deBruijn64tab)] }
def CorrespondencePathsSaid : Prop := correspondencePathsRow.holds Tryz.pinned (OpenSpec.ofChange correspondencePathsSpec)

/-- ITS FALSE NEIGHBOUR: 'it returns false'. Refute it at one input. -/
def correspondencePathsWrong : ChangeSpec := { name := "correspondencePaths", fn := fun _ => fun
  | [d1, d2, d3] => { results := [.lit (.bool false)], args := [d1, d2, d3] }
  | _ => none }
def CorrespondencePathsWrongFalsely : Prop := correspondencePathsRow.holds Tryz.pinned (OpenSpec.ofChange correspondencePathsWrong)

/-- 'halfplanelaw48.AtkinlehnerProducts': WHATEVER THE INPUT: true; the input reads as it did. -/
def atkinlehnerProductsSpec : ChangeSpec := { name := "atkinlehnerProducts", fn := fun _ => fun
  | [d1, d2, d3] => { results := [.lit (.bool true)], args := [d1, d2, d3] }
  | _ => none }
def atkinlehnerProductsRow : OpenClaim := { program := "ytenlbhlllgppmaagreatdoor", sum := "0ebf648634f2989d3f9fd13d29753f9d63f7fe0ea863baeaa7f24035e241297d", func := "halfplane/halfplanelaw48.AtkinlehnerProducts", spec := "atkinlehnerProducts", unfollowed := true, recurses := true, named := ["math/bits.deBruijn64tab", "math/bits.overflowError"], apart := false, laid := [("math/bits.deBruijn64tab", laid_math_bits_deBruijn64tab)] }
def AtkinlehnerProductsSaid : Prop := atkinlehnerProductsRow.holds Tryz.pinned (OpenSpec.ofChange atkinlehnerProductsSpec)

/-- ITS FALSE NEIGHBOUR: 'it returns false'. Refute it at one input. -/
def atkinlehnerProductsWrong : ChangeSpec := { name := "atkinlehnerProducts", fn := fun _ => fun
  | [d1, d2, d3] => { results := [.lit (.bool false)], args := [d1, d2, d3] }
  | _ => none }
def AtkinlehnerProductsWrongFalsely : Prop := atkinlehnerProductsRow.holds Tryz.pinned (OpenSpec.ofChange atkinlehnerProductsWrong)

/- THE SECOND FORM. 'bulk': how many values and letters a reading holds, each counted each time it is reached (what is shared counts as often as it is met; a slice's spare places count too). A statement '..UptoSaid' is the law's where the arguments, and the package variables that the reading takes, are together of bulk at most 1048576: NARROWER than '..Said'. Prove '..Said' where nothing that the law and all that it calls make is longer than what came in: it says more and counts as full. Else prove '..UptoSaid'. A law counts once. -/
mutual
def uptoBulk {H : Type} : DataW H → Nat
  | .lit (.string bytes) => bytes.length + 1
  | .lit _ => 1
  | .nil => 1
  | .ptr d => uptoBulk d + 1
  | .slice elems spare => uptoBulkAll elems + uptoBulkAll spare + 1
  | .agg parts => uptoBulkAll parts + 1
  | .iface _ d => uptoBulk d + 1
  | .map entries => uptoBulkEntries entries + 1
  | .held _ => 1
def uptoBulkAll {H : Type} : List (DataW H) → Nat
  | [] => 0
  | d :: r => uptoBulk d + uptoBulkAll r
def uptoBulkEntries {H : Type} : List (Lit × DataW H) → Nat
  | [] => 0
  | x :: r => uptoBulkEntry x + uptoBulkEntries r
def uptoBulkEntry {H : Type} : Lit × DataW H → Nat
  | (.string bytes, d) => bytes.length + uptoBulk d + 1
  | (_, d) => uptoBulk d + 1
 end
def uptoSmall : (H : Type) → List (DataW H) → Bool := fun _ ds => decide (uptoBulkAll ds ≤ 1048576)
def OpenSpec.upto (s : _root_.Go.ChangeSpec) : _root_.Go.OpenSpec := { _root_.Go.OpenSpec.ofChange s with cond := some uptoSmall }

/-- 'halfplanelaw45.HeckeFirst', WHERE WHAT IT READS IS OF BULK AT MOST 1048576: true; the input reads as it did. -/
def heckeFirstUptoRow : OpenClaim := { program := "ytenlbhlllgppmaagreatdoor", sum := "0ebf648634f2989d3f9fd13d29753f9d63f7fe0ea863baeaa7f24035e241297d", func := "halfplane/halfplanelaw45.HeckeFirst", spec := "heckeFirst", unfollowed := true, recurses := true, named := ["math/bits.deBruijn64tab", "math/bits.overflowError"], apart := false, laid := [("math/bits.deBruijn64tab", laid_math_bits_deBruijn64tab)], narrowed := true }
def HeckeFirstUptoSaid : Prop := heckeFirstUptoRow.holds Tryz.pinned (OpenSpec.upto heckeFirstSpec)

/-- 'halfplanelaw47.DegeneracyPaths', WHERE WHAT IT READS IS OF BULK AT MOST 1048576: true; the input reads as it did. -/
def degeneracyPathsUptoRow : OpenClaim := { program := "ytenlbhlllgppmaagreatdoor", sum := "0ebf648634f2989d3f9fd13d29753f9d63f7fe0ea863baeaa7f24035e241297d", func := "halfplane/halfplanelaw47.DegeneracyPaths", spec := "degeneracyPaths", unfollowed := true, recurses := true, named := ["math/bits.deBruijn64tab", "math/bits.overflowError"], apart := false, laid := [("math/bits.deBruijn64tab", laid_math_bits_deBruijn64tab)], narrowed := true }
def DegeneracyPathsUptoSaid : Prop := degeneracyPathsUptoRow.holds Tryz.pinned (OpenSpec.upto degeneracyPathsSpec)

/-- 'halfplanelaw47.DegeneracyComposes', WHERE WHAT IT READS IS OF BULK AT MOST 1048576: true; the input reads as it did. -/
def degeneracyComposesUptoRow : OpenClaim := { program := "ytenlbhlllgppmaagreatdoor", sum := "0ebf648634f2989d3f9fd13d29753f9d63f7fe0ea863baeaa7f24035e241297d", func := "halfplane/halfplanelaw47.DegeneracyComposes", spec := "degeneracyComposes", unfollowed := true, recurses := true, named := ["math/bits.deBruijn64tab", "math/bits.overflowError"], apart := false, laid := [("math/bits.deBruijn64tab", laid_math_bits_deBruijn64tab)], narrowed := true }
def DegeneracyComposesUptoSaid : Prop := degeneracyComposesUptoRow.holds Tryz.pinned (OpenSpec.upto degeneracyComposesSpec)

/-- 'halfplanelaw48.AtkinlehnerAny', WHERE WHAT IT READS IS OF BULK AT MOST 1048576: true; the input reads as it did. -/
def atkinlehnerAnyUptoRow : OpenClaim := { program := "ytenlbhlllgppmaagreatdoor", sum := "0ebf648634f2989d3f9fd13d29753f9d63f7fe0ea863baeaa7f24035e241297d", func := "halfplane/halfplanelaw48.AtkinlehnerAny", spec := "atkinlehnerAny", unfollowed := true, recurses := true, named := ["math/bits.deBruijn64tab", "math/bits.overflowError"], apart := false, laid := [("math/bits.deBruijn64tab", laid_math_bits_deBruijn64tab)], narrowed := true }
def AtkinlehnerAnyUptoSaid : Prop := atkinlehnerAnyUptoRow.holds Tryz.pinned (OpenSpec.upto atkinlehnerAnySpec)

/-- 'halfplanelaw46.CorrespondencePaths', WHERE WHAT IT READS IS OF BULK AT MOST 1048576: true; the input reads as it did. -/
def correspondencePathsUptoRow : OpenClaim := { program := "ytenlbhlllgppmaagreatdoor", sum := "0ebf648634f2989d3f9fd13d29753f9d63f7fe0ea863baeaa7f24035e241297d", func := "halfplane/halfplanelaw46.CorrespondencePaths", spec := "correspondencePaths", unfollowed := true, recurses := true, named := ["math/bits.deBruijn64tab", "math/bits.overflowError"], apart := false, laid := [("math/bits.deBruijn64tab", laid_math_bits_deBruijn64tab)], narrowed := true }
def CorrespondencePathsUptoSaid : Prop := correspondencePathsUptoRow.holds Tryz.pinned (OpenSpec.upto correspondencePathsSpec)

/-- 'halfplanelaw48.AtkinlehnerProducts', WHERE WHAT IT READS IS OF BULK AT MOST 1048576: true; the input reads as it did. -/
def atkinlehnerProductsUptoRow : OpenClaim := { program := "ytenlbhlllgppmaagreatdoor", sum := "0ebf648634f2989d3f9fd13d29753f9d63f7fe0ea863baeaa7f24035e241297d", func := "halfplane/halfplanelaw48.AtkinlehnerProducts", spec := "atkinlehnerProducts", unfollowed := true, recurses := true, named := ["math/bits.deBruijn64tab", "math/bits.overflowError"], apart := false, laid := [("math/bits.deBruijn64tab", laid_math_bits_deBruijn64tab)], narrowed := true }
def AtkinlehnerProductsUptoSaid : Prop := atkinlehnerProductsUptoRow.holds Tryz.pinned (OpenSpec.upto atkinlehnerProductsSpec)

end Rows
end Go.Proofs.YtenlbhlllgppmaaGreatDoor
