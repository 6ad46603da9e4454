/- Contracts of sl2 and halfplaneref18: In, Fits, Det, CheckCusp. -/
import Derived.Test.YtenlbhlllgppmaaGreatDoorK02
namespace Go.Proofs.YtenlbhlllgppmaaGreatDoor
open Go.RowKit
def inE (n:Int):Bool:=decide (-1073741824≤n)&&decide (n≤1073741824)
def cuspE (p q:Int):Int:=if inE p=false∨q<0∨inE q=false then 2 else if Int.gcd p q≠1∨(q=0∧p≠1)then 3 else 0
end Go.Proofs.YtenlbhlllgppmaaGreatDoor
