/- The two programs' characters agree: a finite look, by the kernel. -/
import Derived.Test.YtenlbhlllgppmaaGreatDoorA02
namespace Go.Proofs.YtenlbhlllgppmaaGreatDoor
namespace Pl
def Dw (D:Int):List Int:=(List.range D.natAbs).map λr=>kroP D (r+D.natAbs)
def chk (D:Int):Bool:=
 let t:=Dw D
 (List.range 241).all (λx=>decide (x=0)||(Nat.gcd x D.natAbs != 1)||(jS D x==t.getD (x % D.natAbs) 5))&&(List.range 129).all (λa=>decide (a=0)||(Nat.gcd a D.natAbs != 1)||(kroP D a==t.getD (a % D.natAbs) 5))
def Cf (i:Nat):Bool:=(List.range 20).all λj=>let D:Int:=((20*i+j:Nat):Int) - 120;!fund D||chk D
theorem jG:Cf 0=true:=by decide +kernel
theorem jH:Cf 1=true:=by decide +kernel
theorem jI:Cf 2=true:=by decide +kernel
theorem jJ:Cf 3=true:=by decide +kernel
theorem jK:Cf 4=true:=by decide +kernel
theorem jL:Cf 5=true:=by decide +kernel
theorem jM:Cf 6=true:=by decide +kernel
theorem jN:Cf 7=true:=by decide +kernel
theorem jO:Cf 8=true:=by decide +kernel
theorem jP:Cf 9=true:=by decide +kernel
theorem gK:Cf 10=true:=by decide +kernel
theorem gM:Cf 11=true:=by decide +kernel
theorem gO:Cf 12=true:=by decide +kernel
theorem Qp:∀i,i<13->Cf i=true
 | 0,_=>jG|1,_=>jH|2,_=>jI|3,_=>jJ|4,_=>jK|5,_=>jL|6,_=>jM|7,_=>jN|8,_=>jO|9,_=>jP|10,_=>gK|11,_=>gM|12,_=>gO
 | n+13,h=>absurd h (by omega)
theorem eG {D:Int} (M:-120<=D) (O:D<=120) (J:fund D=true):chk D=true:=by
 have h:=Qp ((D+120).toNat / 20) (by omega);unfold Cf at h;rw[List.all_eq_true]at h;have I:=h ((D+120).toNat % 20) (List.mem_range.2 (Nat.mod_lt _ (by omega)));rw[Nat.div_add_mod]at I;have e:(((D+120).toNat:Nat):Int) - 120=D:=by omega
 simp only[e,J]at I
 simpa using I
end Pl
end Go.Proofs.YtenlbhlllgppmaaGreatDoor
