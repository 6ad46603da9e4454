/- The lists of matrices and factors of T_n, as both programs make them. -/
import Derived.Test.YtijgdhijdfgpfaaGreatDoorW05
namespace Go.Proofs.YtijgdhijdfgpfaaGreatDoor.Pl
abbrev Cos:=(Nat×Nat×Nat)×Int
end Go.Proofs.YtijgdhijdfgpfaaGreatDoor.Pl
