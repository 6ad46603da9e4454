/- The two programs' characters agree: a finite look, by the kernel. -/
import Derived.Test.YtenlbhlllgppmaaGreatDoorB02
namespace Go.Proofs.YtenlbhlllgppmaaGreatDoor
namespace Pl
def Gc (D:Int):List Int:=(List.range D.natAbs).map λr=>kroP D (r+D.natAbs)
def chk (D:Int):Bool:=
 let t:=Gc D
 (List.range 241).all (λx=>decide (x=0)||(Nat.gcd x D.natAbs != 1)||(mL D x==t.getD (x % D.natAbs) 5))&&(List.range 129).all (λa=>decide (a=0)||(Nat.gcd a D.natAbs != 1)||(kroP D a==t.getD (a % D.natAbs) 5))
def Ct (i:Nat):Bool:=(List.range 20).all λj=>let D:Int:=((20*i+j:Nat):Int) - 120;!fund D||chk D
theorem lT:Ct 0=true:=by decide +kernel
theorem lU:Ct 1=true:=by decide +kernel
theorem lV:Ct 2=true:=by decide +kernel
theorem lW:Ct 3=true:=by decide +kernel
theorem lX:Ct 4=true:=by decide +kernel
theorem lY:Ct 5=true:=by decide +kernel
theorem lZ:Ct 6=true:=by decide +kernel
theorem mF:Ct 7=true:=by decide +kernel
theorem mG:Ct 8=true:=by decide +kernel
theorem mH:Ct 9=true:=by decide +kernel
theorem kE:Ct 10=true:=by decide +kernel
theorem kF:Ct 11=true:=by decide +kernel
theorem kG:Ct 12=true:=by decide +kernel
theorem Rq:∀i,i<13->Ct i=true
 | 0,_=>lT|1,_=>lU|2,_=>lV|3,_=>lW|4,_=>lX|5,_=>lY|6,_=>lZ|7,_=>mF|8,_=>mG|9,_=>mH|10,_=>kE|11,_=>kF|12,_=>kG
 | n+13,h=>absurd h (by omega)
theorem gM {D:Int} (O:-120<=D) (U:D<=120) (J:fund D=true):chk D=true:=by
 have h:=Rq ((D+120).toNat / 20) (by omega);unfold Ct at h;rw[List.all_eq_true]at h;have I:=h ((D+120).toNat % 20) (List.mem_range.2 (Nat.mod_lt _ (by omega)));rw[Nat.div_add_mod]at I;have e:(((D+120).toNat:Nat):Int) - 120=D:=by omega
 simp only[e,J]at I
 simpa using I
end Pl
end Go.Proofs.YtenlbhlllgppmaaGreatDoor
