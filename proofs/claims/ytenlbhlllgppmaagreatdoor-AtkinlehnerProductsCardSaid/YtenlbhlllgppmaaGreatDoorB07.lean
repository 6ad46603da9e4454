/- The lists of matrices and factors of T_n, as both programs make them. -/
import Derived.Test.YtenlbhlllgppmaaGreatDoorB06
namespace Go.Proofs.YtenlbhlllgppmaaGreatDoor
namespace Pl
abbrev Cos:=(Nat×Nat×Nat)×Int
theorem check_ok {N k D:Int} (h:check N k D=0):(1<=N/\N<=120)/\(2<=k/\k<=24)/\(-120<=D/\D<=120)/\fund D=true/\N % D=0:=by
 unfold check at h;by_cases h1:N<1∨120<N∨k<2∨24<k∨D < -120∨120<D
 ·rw[if_pos h1]at h;cases h
 ·rw[if_neg h1]at h
  by_cases h2:fund D=false
  ·rw[if_pos h2]at h;cases h
  ·rw[if_neg h2]at h
   by_cases h3:N % D≠0
   ·rw[if_pos h3]at h;cases h
   ·refine⟨by omega,by omega,by omega,by simpa using h2,by omega⟩
end Pl
end Go.Proofs.YtenlbhlllgppmaaGreatDoor
