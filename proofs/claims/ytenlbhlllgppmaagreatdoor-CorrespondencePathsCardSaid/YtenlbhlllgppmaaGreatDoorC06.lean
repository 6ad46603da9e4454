/- The two programs' characters agree: a finite look, by the kernel. -/
import Derived.Test.YtenlbhlllgppmaaGreatDoorC02
namespace Go.Proofs.YtenlbhlllgppmaaGreatDoor
namespace Pl
def Fk (D:Int):List Int:=(List.range D.natAbs).map λr=>kroP D (r+D.natAbs)
def chk (D:Int):Bool:=
 let t:=Fk D
 (List.range 241).all (λx=>decide (x=0)||(Nat.gcd x D.natAbs != 1)||(lY D x==t.getD (x % D.natAbs) 5))&&(List.range 129).all (λa=>decide (a=0)||(Nat.gcd a D.natAbs != 1)||(kroP D a==t.getD (a % D.natAbs) 5))
def Cj (i:Nat):Bool:=(List.range 20).all λj=>let D:Int:=((20*i+j:Nat):Int) - 120;!fund D||chk D
theorem lM:Cj 0=true:=by decide +kernel
theorem lN:Cj 1=true:=by decide +kernel
theorem lO:Cj 2=true:=by decide +kernel
theorem lP:Cj 3=true:=by decide +kernel
theorem lQ:Cj 4=true:=by decide +kernel
theorem lR:Cj 5=true:=by decide +kernel
theorem lS:Cj 6=true:=by decide +kernel
theorem lT:Cj 7=true:=by decide +kernel
theorem lU:Cj 8=true:=by decide +kernel
theorem lV:Cj 9=true:=by decide +kernel
theorem jV:Cj 10=true:=by decide +kernel
theorem jW:Cj 11=true:=by decide +kernel
theorem jX:Cj 12=true:=by decide +kernel
theorem Q0:∀i,i<13->Cj i=true
 | 0,_=>lM|1,_=>lN|2,_=>lO|3,_=>lP|4,_=>lQ|5,_=>lR|6,_=>lS|7,_=>lT|8,_=>lU|9,_=>lV|10,_=>jV|11,_=>jW|12,_=>jX
 | n+13,h=>absurd h (by omega)
theorem gC {D:Int} (J:-120<=D) (M:D<=120) (I:fund D=true):chk D=true:=by
 have h:=Q0 ((D+120).toNat / 20) (by omega);unfold Cj at h;rw[List.all_eq_true]at h;have E:=h ((D+120).toNat % 20) (List.mem_range.2 (Nat.mod_lt _ (by omega)));rw[Nat.div_add_mod]at E;have e:(((D+120).toNat:Nat):Int) - 120=D:=by omega
 simp only[e,I]at E
 simpa using E
end Pl
end Go.Proofs.YtenlbhlllgppmaaGreatDoor
