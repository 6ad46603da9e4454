/- The two programs' characters agree: a finite look, by the kernel. -/
import Derived.Test.YtijgdhijdfgpfaaGreatDoorW02
namespace Go.Proofs.YtijgdhijdfgpfaaGreatDoor.Pl
def table (D:Int):List Int:=(List.range D.natAbs).map fun r=>kroP D (r+D.natAbs)
end Go.Proofs.YtijgdhijdfgpfaaGreatDoor.Pl
