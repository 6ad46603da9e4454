/- Contract of Vector: the coordinates of a combination. -/
import Derived.Test.YthikonjlgljikaaDoorSf31
namespace Go.Proofs.YthikonjlgljikaaDoor
open Go.RowKit Eli

theorem c_Vector_nil (v : Value) (w : World) :
    Calls Tryd.prog 21 #[.pointer none, v] w fun e w' => e = .returned (.tuple #[.slice none 0 0, .int .i64 1]) ∧ w' = w := by
  go_enter Tryd.func21, Tryd.ntmps21
  go_wp2
  (first | go_ret2 | go_ret)
  exact ⟨rfl, rfl⟩
end Go.Proofs.YthikonjlgljikaaDoor
